/- Words and walks of this claim, of the text Ix11. -/
import Derived.Test.YtoljcfocgaonpaaGreatKaQW0
import Derived.Test.YtoljcfocgaonpaaGreatKaIx0
import Derived.Test.YtoljcfocgaonpaaGreatKaIx10
namespace Go.Proofs.I
open Go.RowKit Go.Proofs.Zw.PrintWords Go.Proofs.Zw.PrintLast Go.Proofs.Zw.PrintMore
set_option maxHeartbeats 8000000
set_option maxRecDepth 100000
attribute [local go_sem] Dw Ec El Es Dd Dj Dr Eb
set_option linter.unusedVariables false
set_option linter.unusedSimpArgs false
def Bg.l0 : Nat → Int → List (S44) → List (S44) → Option ((List (S44)))
 | 0, _, _, _ => none
 | k + 1, x4, x365000, x367000 => if x4 < (x365000.length : Int) then (if 0 ≤ x4 then ((Av.f k ((Ad x365000 x4).f0) ((Ad x365000 x4).f1)).bind fun bt368 => (if x367000.length < 4398046511104 then (Bg.l0 k (wrap64 (x4 + 1)) x365000 (x367000 ++ [(⟨bt368.1, bt368.2⟩ : S44)])) else (none))) else (none)) else (some x367000)
def Bg.f (k : Nat) (l0_0 : List (S44)) : Option ((List (S44))) := Bg.l0 k 0 l0_0 ([] : List (S44))
def Bg.T5 : Bool × List (List Nat × List Nat) := (true, [([], []), ([0], [0]), ([], []), ([2], [2]), ([], []), ([3, 4], [3, 4]), ([5], [5]), ([6], [6]), ([7], [7]), ([1, 8, 7], [1, 8]), ([0, 1, 2, 3, 4, 5, 6, 7, 8, 9], []), ([10, 9, 9, 0, 1, 2, 3, 4, 5, 6, 7, 8, 9], [9, 10])])
def Bg.B5 : List Nat := [0, 1, 0, 4, 0, 28, 60, 124, 252, 511, 1023, 2047]
theorem Bg.tab5 : rtab .any (Jp Tryz.f5 5) = Bg.T5 := by kernel_rfl
theorem Bg.bits5 : Ff Bg.T5.2 Bg.B5 = true := by kernel_rfl
theorem Bg.calls (k : Nat) (A0_0 : Option Addr) (c0_0 : Nat) (l0_0 : List (S44)) (r : List (S44)) (w : World) (hr0_0 : Kd.C k44 w A0_0 l0_0.length l0_0) (hc0_0 : l0_0.length ≤ c0_0) (h : Bg.f k l0_0 = some r) :
 Calls Tryz.prog 5 #[.agg #[.slice A0_0 l0_0.length c0_0]] w fun e w' => ∃ v0_ : Value, e = .returned (.agg #[v0_]) ∧ Kd.R k44 44 w' w.heap.size (fun _ => True) v0_ r ∧ Below w.heap.size w w' := by
 have hu24 := Tryz.underlying24; have hu44 := Tryz.underlying44; have HR0_0 := zk hr0_0; have HC0_0 := zk hc0_0; clear hr0_0 hc0_0; have HB := zk (Below.refl w.heap.size w); have H : (Bg.l0 k 0 l0_0 ([] : List (S44))) = some r := h; clear h; have H' := zk H; clear H; go_enter Tryz.func5, Tryz.ntmps5
 go_wp2_with (first | ((with_reducible refine Bd (N := 1) rfl ?_); refine Bb ?hg (N := 1) ?hd (cs := #[.slice A0_0 l0_0.length c0_0]) (t := 24) ?hr ?_; (case hd => rfl); (case hg => rfl); (case hr => first | (go_simp; done) | (go_simp; rfl)); intro gb364 hg w2 hbox hb; have BK364 := zk (hbox); have GE364 := zk ((zg hg HB.out : w.heap.size ≤ gb364)); replace HB := zs HB hb;  clear hb hbox hg) | ((with_reducible refine Bd (N := 2) rfl ?_); refine Bb ?hg (N := 2) ?hd (cs := #[.slice none 0 0]) (t := 24) ?hr ?_; (case hd => rfl); (case hg => rfl); (case hr => first | (go_simp; done) | (go_simp; rfl)); intro gb365 hg w3 hbox hb; have BK365 := zk (hbox); have GE365 := zk ((zg hg HB.out : w.heap.size ≤ gb365)); replace HB := zs HB hb; have NB364_365 := zk ((zlt hg BK364.out : gb364 ≠ gb365)); have NB365_364 := zk ((zgt hg BK364.out : gb365 ≠ gb364)); replace BK364 := zk (zbb BK364.out hb);  clear hb hbox hg) | ((with_reducible refine Bd (N := 3) rfl ?_); refine Bb ?hg (N := 3) ?hd (cs := #[.slice none 0 0]) (t := 24) ?hr ?_; (case hd => rfl); (case hg => rfl); (case hr => first | (go_simp; done) | (go_simp; rfl)); intro gb366 hg w4 hbox hb; have BK366 := zk (hbox); have GE366 := zk ((zg hg HB.out : w.heap.size ≤ gb366)); replace HB := zs HB hb; have NB364_366 := zk ((zlt hg BK364.out : gb364 ≠ gb366)); have NB366_364 := zk ((zgt hg BK364.out : gb366 ≠ gb364)); replace BK364 := zk (zbb BK364.out hb); have NB365_366 := zk ((zlt hg BK365.out : gb365 ≠ gb366)); have NB366_365 := zk ((zgt hg BK365.out : gb366 ≠ gb365)); replace BK365 := zk (zbb BK365.out hb);  clear hb hbox hg; have hnb5 := NB366_364.out; have hnc5 := NB364_366.out; have hnb6 := NB366_365.out; have hnc6 := NB365_366.out; have hcz7_0 : w4.cell? ⟨gb366, 0, none⟩ = some (.slice none 0 0) := zh BK366.out 0; have hfz7_0 := Ac BK366.out 0))
 go_loopg [4] k (fun kq v4 w' => ∃ (x4_1 : Int) (x367000_1 : List (S44)) (u367000 : Value), v4 = .int .i64 x4_1 ∧ Aa (Bg.l0 kq x4_1 l0_0 x367000_1 = some r) ∧ Aa (kq ≤ k) ∧ Aa (Kd.R k44 44 w' w.heap.size (fun _ => True) u367000 x367000_1) ∧ Aa (w'.heap[gb364]? = some (.cells #[(.slice A0_0 l0_0.length c0_0)] 24 (0, 0))) ∧ Aa (w'.heap[gb365]? = some (.cells #[(.slice none 0 0)] 24 (0, 0))) ∧ Aa (w'.heap[gb366]? = some (.cells #[u367000] 24 (0, 0))) ∧ Aa (Below w.heap.size w w'))
 case atStart => exact ⟨(0), (([] : List (S44))), (.slice none 0 0), zR, H', ⟨Nat.le_refl _⟩, ⟨by first | exact Kd.R_nil _ _ _ _ _ | exact Kd.N_nil _ _ _ _ _ | exact Kd.V_nil _ _ _ _ _ | exact Kd.Q_nil _ _ _ _ _ | exact Kd.S_nil _ _ _ _ _⟩, ⟨zb BK364.out⟩, ⟨zb BK365.out⟩, ⟨by (with_reducible repeat (first | refine Bj ?_ _ | refine Ay ?_ | refine Be ?_ _)); refine Ca (cs := #[.slice none 0 0]) ?_ 0 _ rfl; exact zb BK366.out⟩, ⟨zU HB.out⟩⟩
 case round =>
  clear H'; (try clear p2); (try clear c5); (try clear c6); (try clear hcz7_0); (try clear hfz7_0); obtain ⟨x4_1, x367000_1, u367000, rfl, HA, HK1, HO_367000, BK364, BK365, BK366, HB⟩ := hrel
  cases gk with
  | zero => exact absurd HA.out (by simp [Bg.l0])
  | succ k1 =>
   have H := HA.out; clear HA; simp only [Bg.l0] at H; by_cases c8 : x4_1 < (l0_0.length : Int)
   ·rw [if_pos c8] at H; have c8b0 : decide (x4_1 < (l0_0.length : Int)) = true := decide_eq_true c8; clear c8; by_cases c9 : 0 ≤ x4_1
    ·rw [if_pos c9] at H; have c9b0 : decide (0 ≤ x4_1) = true := decide_eq_true c9; clear c9; replace H := Option.bind_eq_some_iff.mp H; obtain ⟨⟨t368, t371⟩, A100, H⟩ := H; replace H : (if x367000_1.length < 4398046511104 then (Bg.l0 k1 (wrap64 (x4_1 + 1)) l0_0 (x367000_1 ++ [(⟨t368, t371⟩ : S44)])) else (none)) = some r := H; have A10 := zk A100; clear A100; by_cases c11 : x367000_1.length < 4398046511104
     ·rw [if_pos c11] at H; have LMc11 := zk c11; clear c11; obtain ⟨y372, hy372⟩ : ∃ y_ : List (S44), y_ = (x367000_1 ++ [(⟨t368, t371⟩ : S44)]) := ⟨_, rfl⟩
      replace H : (Bg.l0 k1 (wrap64 (x4_1 + 1)) l0_0 y372) = some r := by first | (rw [hy372]; with_reducible exact H) | (have H2_ := (Option.bind_some _ _).symm.trans H; rw [hy372]; with_reducible exact H2_) | (have H2_ := (Option.bind_some _ _).symm.trans H; with_reducible exact H2_) | with_reducible exact H | (rw [hy372]; exact H) | exact H
      have Ny372 := zk hy372; clear hy372; have H' := zk H; clear H; have hnb12 := NB364_365.out; have hnc12 := NB365_364.out; have hnb13 := NB364_366.out; have hnc13 := NB366_364.out; have hcz14_0 : wr.cell? ⟨gb364, 0, none⟩ = some (.slice A0_0 l0_0.length c0_0) := zh BK364.out 0; have hfz14_0 := Ac BK364.out 0; try go_wp2
      have n0_ := zk (Kd.R_drew HO_367000.out); have n1_ := zk (Ay BK364.out); have n2_ := zk (Ay BK365.out); have n3_ := zk (Ay BK366.out); have n4_ := zk (Bv HB.out); clear HO_367000; clear BK364; clear BK365; clear BK366; clear HB; have HO_367000 := n0_; have BK364 := n1_; have BK365 := n2_; have BK366 := n3_; have HB := n4_; clear n0_ n1_ n2_ n3_ n4_; have p367 : 0 ≤ (x4_1 : Int) := zT; have q367 : x4_1 < (l0_0.length : Int) := zT; obtain ⟨ad367, A367_0, c367_0, e367, hx367_0, hx367_1, hl367_0, hi367_0⟩ := Cz HR0_0.out x4_1 p367 q367; have hw367_1 := hx367_1; have hw367_0 := hx367_0; cases e367; replace hx367_0 := zcl HB.out hx367_0; replace hx367_1 := zcl HB.out hx367_1; have HR367_0 := zk hi367_0; have HC367_0 := zk hl367_0; clear hi367_0 hl367_0; replace p367 := eq_true p367; replace q367 := eq_true q367; refine Ew (n := 12) (S := fun w' => w'.cell? ⟨gb366, 0, none⟩ = some (u367000) ∧ w'.cell? ⟨gb364, 0, none⟩ = some (.slice (some ad367) l0_0.length c0_0) ∧ w'.cell? (ad367.add ((x4_1).toNat * 2)) = some (.slice A367_0 ((Ad l0_0 x4_1).f0).length c367_0) ∧ w'.cell? ⟨(ad367.add ((x4_1).toNat * 2)).block, (ad367.add ((x4_1).toNat * 2)).off + 1, none⟩ = some (.int .i64 ((Ad l0_0 x4_1).f1))) (ds := [11]) #[false, false, false, false, false, false, false, false, false, false, false, false] zz rfl rfl ⟨(Ag BK366.out 0).trans rfl, (Ag BK364.out 0).trans rfl, (zcl HB.out hw367_0), (zcl HB.out hw367_1)⟩ (fun hHeld => ?_); refine Cy Bg.tab5 Bg.bits5 (fun HT_ HW_ => ?_); generalize wr.drew = w15 at HO_367000 BK364 BK365 BK366 HB HR367_0 hx367_0 hx367_1 hHeld ⊢; refine zp 0 (some 13) (v := ?_) (a' := ?_) (bz 12 1) rfl rfl HT_.out zz zQ ?_ ?_ ?_; rotate_left
      ·intro w'; go_simp; with_reducible rfl
      rotate_left
      ·simp only [zy]; rfl
      refine zp 2 (some 15) (v := ?_) (a' := ?_) (bz 12 5) rfl rfl HT_.out zz zQ ?_ ?_ ?_; rotate_left
      ·intro w'; go_simp; with_reducible rfl
      rotate_left
      ·simp only [zy]; rfl
      refine zp 4 (some 17) (v := ?_) (a' := ?_) (bz 12 21) rfl rfl HT_.out zz zQ ?_ ?_ ?_; rotate_left
      ·intro w'; go_simp; with_reducible rfl
      rotate_left
      ·simp only [zy]; rfl
      refine take_ (i := 1) (N := some 14) (v := ?_) (a' := ?_) (bz 12 23) rfl rfl (Bk HT_.out HW_.out zz) zQ (Or.inl ⟨by rfl, ?_⟩) hHeld ?_ ?_; rotate_left
      ·rintro w' ⟨s0, s1, s2, s3⟩; go_simp; with_reducible rfl
      rotate_left
      ·simp only [zy]; rfl
      refine take_ (i := 3) (N := some 16) (v := ?_) (a' := ?_) (bz 12 31) rfl rfl (Bk HT_.out HW_.out zz) zQ (Or.inl ⟨by rfl, ?_⟩) hHeld ?_ ?_; rotate_left
      ·rintro w' ⟨s0, s1, s2, s3⟩; go_simp; with_reducible rfl
      rotate_left
      ·simp only [zy]; rfl
      refine zp 5 (some 18) (v := ?_) (a' := ?_) (bz 12 63) rfl rfl HT_.out zz zQ ?_ ?_ ?_; rotate_left
      ·intro w'; go_simp; with_reducible rfl
      rotate_left
      ·simp only [zy]; rfl
      refine take_ (i := 6) (N := some 19) (v := ?_) (a' := ?_) (bz 12 127) rfl rfl (Bk HT_.out HW_.out zz) zQ (Or.inl ⟨by rfl, ?_⟩) hHeld ?_ ?_; rotate_left
      ·rintro w' ⟨s0, s1, s2, s3⟩; go_simp; with_reducible rfl
      rotate_left
      ·simp only [zy]; rfl
      refine one_ (i := 7) (N := some 20) (bz 12 255) rfl rfl (Eh HT_.out zz) (by decide) (fun K hK => ?_); refine Gy Tryz.func14 zz rfl #[.agg #[.slice A367_0 ((Ad l0_0 x4_1).f0).length c367_0, .int .i64 ((Ad l0_0 x4_1).f1)]] (by rfl) rfl rfl zM ?_; with_reducible refine (Av.calls k1 _ _ ((Ad l0_0 x4_1).f0) ((Ad l0_0 x4_1).f1) t368 t371 _ ?side1 ?side2 A10.out).mono ?_; (case side1 => exact zc (Kd.C_below HR367_0.out HB.out))
      (case side2 => exact HC367_0.out)
      rintro e w16 ⟨v369, rfl, ho0, hb⟩; refine ⟨_, rfl, ?_⟩; have n0_ := zk (Kd.R_elder' (zr HO_367000.out) (Kd.S_base ho0) hb); have n1_ := zk (Kd.S_lower ho0 (Ar (zU HB.out))); have n2_ := zk (zbb BK364.out hb); have n3_ := zk (zbb BK365.out hb); have n4_ := zk (zbb BK366.out hb); have n5_ := zs HB hb; clear HO_367000; clear BK364; clear BK365; clear BK366; clear HB; have HO_367000 := n0_; have HO370 := n1_; have BK364 := n2_; have BK365 := n3_; have BK366 := n4_; have HB := n5_; clear n0_ n1_ n2_ n3_ n4_ n5_; (try clear hb); (try clear hb2); (try clear hk); (try clear hi); (try clear ho0); obtain ⟨Ao18, co18, eo18⟩ := Kd.S_slice HO370.out
      (first | subst eo18 | (injection eo18 with f1_ f2_ f3_; have f4_ := f1_.symm; have f5_ := f3_.symm; clear f1_ f2_ f3_; subst f4_; subst f5_))
      refine hK.out _ _ ⟨(Ag BK366.out 0).trans rfl, (Ag BK364.out 0).trans rfl, (zcl HB.out hw367_0), (zcl HB.out hw367_1)⟩ (fun hHeld => ?_); clear hK K; refine Fi (a' := ?_) ?_ ?_; rotate_left
      ·show Act.put _ (some 20) _ = _; simp only [zy]; rfl
      refine one_ (i := 8) (N := some 21) (bz 12 511) rfl rfl (Eh HT_.out zz) (by decide) (fun K hK => ?_); refine Sc (w1 := ?_) (v := ?_) (by rfl) rfl ?_ ?_; rotate_left 2
      ·go_simp; constructor
       ·rfl
       ·rfl
      refine hK.out _ _ ⟨(Ag (Be BK366.out _) 0).trans rfl, (Ag (Be BK364.out _) 0).trans rfl, (World.cell?_alloc_lt _ _ _ (World.block_lt_of_cell? _ _ ((zcl HB.out hw367_0)))).trans ((zcl HB.out hw367_0)), (World.cell?_alloc_lt _ _ _ (World.block_lt_of_cell? _ _ ((zcl HB.out hw367_1)))).trans ((zcl HB.out hw367_1))⟩ (fun hHeld => ?_); clear hK K; refine Fi (a' := ?_) ?_ ?_; rotate_left
      ·show Act.put _ (some 21) _ = _; simp only [zy]; rfl
      refine one_ (i := 9) (N := some 22) (bz 12 1023) rfl rfl (Eh HT_.out zz) (by decide) (fun K hK => ?_); refine Kd.R_append_step k44 (w0 := w) w.heap.size (by rfl) (.tmp 14) (.tmp 21) 22 44 (.agg #[(.slice none 0 0), (.int .i64 0)]) 32 rfl Tryz.underlying22 Vr rfl (by decide) (by omega) u367000 x367000_1 (⟨t368, t371⟩ : S44) [.slice Ao18 t368.length co18, .int .i64 t371] (fun _ => True) (fun k_ => ((fun _ => True)) k_ ∧ some k_ ≠ (u367000 : Value).ownBlock) rfl rfl ?aP (fun _ hk => hk) ?aF ?aO ?aB ?aS ?aL ?_; (case aP => exact k44_mkM _ _ _ (⟨t368, t371⟩ : S44) (Kd.R_mono (Kd.R_apart' ((Kd.S_R HO370.out)) (Kd.R_typed HO_367000.out) (by decide)) (fun k_ hk => ⟨trivial, hk.2⟩)))
      (case aB => exact (zU HB.out))
      (case aF => exact (fun _ _ => trivial))
      (case aO => exact (by (with_reducible repeat (first | apply zA | apply zB | apply zC)); exact Kd.R_mono HO_367000.out (fun _ hk => trivial)))
      (case aS => exact (Ar (zU HB.out)))
      (case aL => have := LMc11.out; omega)
      intro v373 w17 ho hb hg hat; rw [← Ny372.out] at ho; have n0_ := zk (Cp (g := gb364) (o := .cells #[.slice (some ad367) l0_0.length c0_0] 24 (0, 0)) (zb BK364.out) hg (Kd.R_ne HO_367000.out BK364.out (by decide))); have n1_ := zk (Cp (g := gb365) (o := .cells #[.slice none 0 0] 24 (0, 0)) (zb BK365.out) hg (Kd.R_ne HO_367000.out BK365.out (by decide))); have n2_ := zk (Cp (g := gb366) (o := .cells #[u367000] 24 (0, 0)) (zb BK366.out) hg (Kd.R_ne HO_367000.out BK366.out (by decide))); have n3_ := zk (hb); have n4_ := zk (ho); clear BK364; clear BK365; clear BK366; clear HB; clear HO_367000; clear HO370; have BK364 := n0_; have BK365 := n1_; have BK366 := n2_; have HB := n3_; have HO374 := n4_; clear n0_ n1_ n2_ n3_ n4_; clear ho hb hg hat; obtain ⟨Ao19, co19, eo19⟩ := Kd.R_slice HO374.out
      (first | subst eo19 | (injection eo19 with f1_ f2_ f3_; have f4_ := f1_.symm; have f5_ := f3_.symm; clear f1_ f2_ f3_; subst f4_; subst f5_))
      refine hK.out _ _ ⟨(Ag BK366.out 0).trans rfl, (Ag BK364.out 0).trans rfl, (zcl HB.out hw367_0), (zcl HB.out hw367_1)⟩ (fun hHeld => ?_); clear hK K; refine Fi (a' := ?_) ?_ ?_; rotate_left
      ·show Act.put _ (some 22) _ = _; simp only [zy]; rfl
      refine zp 10 (some 23) (v := ?_) (a' := ?_) (bz 12 2047) rfl rfl HT_.out zz zQ ?_ ?_ ?_; rotate_left
      ·intro w'; go_simp; with_reducible rfl
      rotate_left
      ·simp only [zy]; rfl
      refine Uv (i := 11) (N := none) (bz 12 4095) rfl rfl (Eh HT_.out zz) (by decide) (fun K hK => ?_); have hs20 : w17.cell? ⟨gb366, 0, none⟩ = some (u367000) := zh BK366.out 0; have hfs20 := Ac BK366.out 0; have hns20_0 := NB364_366.out; have hns20_1 := NB365_366.out; have hms20_0 := NB366_364.out; have hms20_1 := NB366_365.out; refine Uk (w1 := ?_) (by rfl) rfl ?_ ?_; rotate_left
      ·go_simp; rfl
      refine hK.out _ _ ?_; clear hK K; refine Gg (Ei HT_.out zz) ?_; try go_wp2
      go_roundg k1
      case measure => have := HK1.out; omega
      case rel => exact ⟨(wrap64 (x4_1 + 1)), (y372), (.slice Ao19 y372.length co19), zR, H', ⟨by have := HK1.out; omega⟩, ⟨by (with_reducible repeat (first | apply zA | apply zB | apply zC)); exact Kd.R_mono (Kd.R_far (p := ⟨gb366, 0, none⟩) (Kd.R_types HO374.out BK366.out (by decide)) (fun _ hk => hk.2) (.slice Ao19 y372.length co19)) (fun _ hk => trivial)⟩, ⟨zb BK364.out⟩, ⟨zb BK365.out⟩, ⟨by (with_reducible repeat (first | refine Bj ?_ _ | refine Ay ?_ | refine Be ?_ _)); refine Ca (cs := #[u367000]) ?_ 0 _ rfl; exact zb BK366.out⟩, ⟨zU HB.out⟩⟩
     ·rw [if_neg c11] at H; cases H
    ·rw [if_neg c9] at H; cases H
   ·rw [if_neg c8] at H; have c8b0 : decide (x4_1 < (l0_0.length : Int)) = false := decide_eq_false c8; clear c8; obtain rfl := Option.some.inj H; have hnb21 := NB364_365.out; have hnc21 := NB365_364.out; have hnb22 := NB364_366.out; have hnc22 := NB366_364.out; have hcz23_0 : wr.cell? ⟨gb364, 0, none⟩ = some (.slice A0_0 l0_0.length c0_0) := zh BK364.out 0; have hfz23_0 := Ac BK364.out 0; have hnb24 := NB366_365.out; have hnc24 := NB365_366.out; have hcz25_0 : wr.cell? ⟨gb366, 0, none⟩ = some (u367000) := zh BK366.out 0; have hfz25_0 := Ac BK366.out 0; obtain ⟨Ao26, co26, eo26⟩ := Kd.R_slice HO_367000.out; subst eo26; have hcz27_0 : wr.cell? ⟨gb365, 0, none⟩ = some (.slice none 0 0) := zh BK365.out 0; have hfz27_0 := Ac BK365.out 0; go_wp2
    refine bodyPost_ret (results_cell_row rfl _ _ gb365 24 #[.slice Ao26 x367000_1.length co26] (0, 0) _ rfl (by (with_reducible repeat (first | refine Bj ?_ _ | refine Ay ?_ | refine Be ?_ _)); refine Ca (cs := #[.slice none 0 0]) ?_ 0 _ rfl; exact zb BK365.out) Tryz.underlying24 rfl zz) rfl ?_; exact ⟨_, ze, by (with_reducible repeat (first | apply zA | apply zB | apply zC)); exact Kd.R_mono (Kd.R_far (p := ⟨gb365, 0, none⟩) (Kd.R_types HO_367000.out BK365.out (by decide)) (fun _ hk => hk.2) (.slice Ao26 x367000_1.length co26)) (fun _ hk => trivial), zU HB.out⟩
def Bc.l0 : Nat → List (S58) → Int → Option (Bool)
 | 0, _, _ => none
 | k + 1, x0, x3 => if x3 < (x0.length : Int) then (if 0 ≤ x3 then (if ((Ch x0 x3).f0) < 0 then (some false) else (if ((Ch x0 x3).f0) > ((Ch x0 x3).f1) then (some false) else (if ((Ch x0 x3).f1) > 255 then (some false) else (if x3 > 0 then (if 0 ≤ (wrap64 (x3 - 1)) then (if (wrap64 (x3 - 1)) < (x0.length : Int) then (if ((Ch x0 x3).f0) ≤ (wrap64 (((Ch x0 (wrap64 (x3 - 1))).f1) + 1)) then (some false) else (Bc.l0 k x0 (wrap64 (x3 + 1)))) else (none)) else (none)) else (Bc.l0 k x0 (wrap64 (x3 + 1))))))) else (none)) else (some true)
def Bc.f (k : Nat) (l0 : List (S58)) : Option (Bool) := Bc.l0 k l0 0
theorem Bc.calls (k : Nat) (A0 : Option Addr) (c0 : Nat) (l0 : List (S58)) (r : Bool) (w : World) (hr0 : Kd.C k58 w A0 l0.length l0) (hc0 : l0.length ≤ c0) (h : Bc.f k l0 = some r) :
 Calls Tryz.prog 52 #[.slice A0 l0.length c0] w fun e w' => e = .returned (.bool r) ∧ Eg w w' := by
 have HR0 := zk hr0; have HC0 := zk hc0; clear hr0 hc0; have H : (Bc.l0 k l0 0) = some r := h; clear h; have H' := zk H; clear H; go_enter Tryz.func52, Tryz.ntmps52
 go_wp2
 repeat (go_quiet (fail); try go_wp2)
 go_loopg [3] k (fun kq v3 w' => ∃ (x3_1 : Int), v3 = .int .i64 x3_1 ∧ Aa (Bc.l0 kq l0 x3_1 = some r) ∧ Aa (kq ≤ k) ∧ Eg w w')
 case atStart => exact ⟨(0), zR, H', ⟨Nat.le_refl _⟩, by repeat (first | exact Eg.refl _ | apply Eg.step)⟩
 case round =>
  clear H'; obtain ⟨x3_1, rfl, HA, HK1, ⟨m1, rfl⟩⟩ := hrel
  cases gk with
  | zero => exact absurd HA.out (by simp [Bc.l0])
  | succ k1 =>
   have H := HA.out; clear HA; simp only [Bc.l0] at H; by_cases c2 : x3_1 < (l0.length : Int)
   ·rw [if_pos c2] at H; have c2b0 : decide (x3_1 < (l0.length : Int)) = true := decide_eq_true c2; clear c2; by_cases c3 : 0 ≤ x3_1
    ·rw [if_pos c3] at H; have c3b0 : decide (0 ≤ x3_1) = true := decide_eq_true c3; clear c3; by_cases c4 : ((Ch l0 x3_1).f0) < 0
     ·rw [if_pos c4] at H; have c4b0 : decide (((Ch l0 x3_1).f0) < 0) = true := decide_eq_true c4; clear c4; obtain rfl := Option.some.inj H; have p375 : 0 ≤ (x3_1 : Int) := zT; have q375 : x3_1 < (l0.length : Int) := zT; obtain ⟨ad375, e375, hx375_0, hx375_1⟩ := Eo HR0.out x3_1 p375 q375; cases e375; replace p375 := eq_true p375; replace q375 := eq_true q375; go_wp2
      repeat (go_quiet (fail); try go_wp2)
      go_ret
      exact ⟨by first | rfl | (simp; done) | (simp [*]; done), by repeat (first | exact Eg.refl _ | apply Eg.step)⟩
     ·rw [if_neg c4] at H; have c4b0 : decide (((Ch l0 x3_1).f0) < 0) = false := decide_eq_false c4; clear c4; by_cases c5 : ((Ch l0 x3_1).f0) > ((Ch l0 x3_1).f1)
      ·rw [if_pos c5] at H; have c5b0 : decide (((Ch l0 x3_1).f1) < ((Ch l0 x3_1).f0)) = true := decide_eq_true c5; clear c5; obtain rfl := Option.some.inj H; have p375 : 0 ≤ (x3_1 : Int) := zT; have q375 : x3_1 < (l0.length : Int) := zT; obtain ⟨ad375, e375, hx375_0, hx375_1⟩ := Eo HR0.out x3_1 p375 q375; cases e375; replace p375 := eq_true p375; replace q375 := eq_true q375; have p376 : 0 ≤ (x3_1 : Int) := zT; have q376 : x3_1 < (l0.length : Int) := zT; obtain ⟨ad376, e376, hx376_0, hx376_1⟩ := Eo HR0.out x3_1 p376 q376; obtain rfl : ad375 = ad376 := (by injection e376); replace p376 := eq_true p376; replace q376 := eq_true q376; have p377 : 0 ≤ (x3_1 : Int) := zT; have q377 : x3_1 < (l0.length : Int) := zT; obtain ⟨ad377, e377, hx377_0, hx377_1⟩ := Eo HR0.out x3_1 p377 q377; obtain rfl : ad375 = ad377 := (by injection e377); replace p377 := eq_true p377; replace q377 := eq_true q377; go_wp2
       repeat (go_quiet (fail); try go_wp2)
       go_ret
       exact ⟨by first | rfl | (simp; done) | (simp [*]; done), by repeat (first | exact Eg.refl _ | apply Eg.step)⟩
      ·rw [if_neg c5] at H; have c5b0 : decide (((Ch l0 x3_1).f1) < ((Ch l0 x3_1).f0)) = false := decide_eq_false c5; clear c5; by_cases c6 : ((Ch l0 x3_1).f1) > 255
       ·rw [if_pos c6] at H; have c6b0 : decide (255 < ((Ch l0 x3_1).f1)) = true := decide_eq_true c6; clear c6; obtain rfl := Option.some.inj H; have p375 : 0 ≤ (x3_1 : Int) := zT; have q375 : x3_1 < (l0.length : Int) := zT; obtain ⟨ad375, e375, hx375_0, hx375_1⟩ := Eo HR0.out x3_1 p375 q375; cases e375; replace p375 := eq_true p375; replace q375 := eq_true q375; have p376 : 0 ≤ (x3_1 : Int) := zT; have q376 : x3_1 < (l0.length : Int) := zT; obtain ⟨ad376, e376, hx376_0, hx376_1⟩ := Eo HR0.out x3_1 p376 q376; obtain rfl : ad375 = ad376 := (by injection e376); replace p376 := eq_true p376; replace q376 := eq_true q376; have p377 : 0 ≤ (x3_1 : Int) := zT; have q377 : x3_1 < (l0.length : Int) := zT; obtain ⟨ad377, e377, hx377_0, hx377_1⟩ := Eo HR0.out x3_1 p377 q377; obtain rfl : ad375 = ad377 := (by injection e377); replace p377 := eq_true p377; replace q377 := eq_true q377; have p378 : 0 ≤ (x3_1 : Int) := zT; have q378 : x3_1 < (l0.length : Int) := zT; obtain ⟨ad378, e378, hx378_0, hx378_1⟩ := Eo HR0.out x3_1 p378 q378; obtain rfl : ad375 = ad378 := (by injection e378); replace p378 := eq_true p378; replace q378 := eq_true q378; go_wp2
        repeat (go_quiet (fail); try go_wp2)
        go_ret
        exact ⟨by first | rfl | (simp; done) | (simp [*]; done), by repeat (first | exact Eg.refl _ | apply Eg.step)⟩
       ·rw [if_neg c6] at H; have c6b0 : decide (255 < ((Ch l0 x3_1).f1)) = false := decide_eq_false c6; clear c6; by_cases c7 : x3_1 > 0
        ·rw [if_pos c7] at H; have c7b0 : decide (0 < x3_1) = true := decide_eq_true c7; clear c7; obtain ⟨ji8, hji8⟩ : ∃ j_ : Int, (wrap64 (x3_1 - 1)) = j_ := ⟨_, rfl⟩
         replace H : (if 0 ≤ (ji8) then (if (ji8) < (l0.length : Int) then (if ((Ch l0 x3_1).f0) ≤ (wrap64 (((Ch l0 (ji8)).f1) + 1)) then (some false) else (Bc.l0 k1 l0 (wrap64 (x3_1 + 1)))) else (none)) else (none)) = some r := by first | (rw [hji8] at H; exact H) | (simp only [hji8] at H ⊢; exact H)
         have hji8w : (IntKind.i64.wrap (x3_1 - 1)) = ji8 := (Hu _).trans hji8; by_cases c9 : 0 ≤ (ji8)
         ·rw [if_pos c9] at H; have c9b0 : decide (0 ≤ (ji8)) = true := decide_eq_true c9; clear c9; by_cases c10 : (ji8) < (l0.length : Int)
          ·rw [if_pos c10] at H; have c10b0 : decide ((ji8) < (l0.length : Int)) = true := decide_eq_true c10; clear c10; by_cases c11 : ((Ch l0 x3_1).f0) ≤ (wrap64 (((Ch l0 (ji8)).f1) + 1))
           ·rw [if_pos c11] at H; have c11b0 : decide (((Ch l0 x3_1).f0) ≤ (wrap64 (((Ch l0 (ji8)).f1) + 1))) = true := decide_eq_true c11; clear c11; obtain rfl := Option.some.inj H; have p375 : 0 ≤ (x3_1 : Int) := zT; have q375 : x3_1 < (l0.length : Int) := zT; obtain ⟨ad375, e375, hx375_0, hx375_1⟩ := Eo HR0.out x3_1 p375 q375; cases e375; replace p375 := eq_true p375; replace q375 := eq_true q375; have p376 : 0 ≤ (x3_1 : Int) := zT; have q376 : x3_1 < (l0.length : Int) := zT; obtain ⟨ad376, e376, hx376_0, hx376_1⟩ := Eo HR0.out x3_1 p376 q376; obtain rfl : ad375 = ad376 := (by injection e376); replace p376 := eq_true p376; replace q376 := eq_true q376; have p377 : 0 ≤ (x3_1 : Int) := zT; have q377 : x3_1 < (l0.length : Int) := zT; obtain ⟨ad377, e377, hx377_0, hx377_1⟩ := Eo HR0.out x3_1 p377 q377; obtain rfl : ad375 = ad377 := (by injection e377); replace p377 := eq_true p377; replace q377 := eq_true q377; have p378 : 0 ≤ (x3_1 : Int) := zT; have q378 : x3_1 < (l0.length : Int) := zT; obtain ⟨ad378, e378, hx378_0, hx378_1⟩ := Eo HR0.out x3_1 p378 q378; obtain rfl : ad375 = ad378 := (by injection e378); replace p378 := eq_true p378; replace q378 := eq_true q378; have p379 : 0 ≤ (x3_1 : Int) := zT; have q379 : x3_1 < (l0.length : Int) := zT; obtain ⟨ad379, e379, hx379_0, hx379_1⟩ := Eo HR0.out x3_1 p379 q379; obtain rfl : ad375 = ad379 := (by injection e379); replace p379 := eq_true p379; replace q379 := eq_true q379; have p380 : 0 ≤ ((ji8) : Int) := zT; have q380 : (ji8) < (l0.length : Int) := zT; obtain ⟨ad380, e380, hx380_0, hx380_1⟩ := Eo HR0.out (ji8) p380 q380; obtain rfl : ad375 = ad380 := (by injection e380); replace p380 := eq_true p380; replace q380 := eq_true q380; go_wp2
            repeat (go_quiet (fail); try go_wp2)
            go_ret
            exact ⟨by first | rfl | (simp; done) | (simp only [← hji8] <;> (first | rfl | simp)) | (simp [*]; done), by repeat (first | exact Eg.refl _ | apply Eg.step)⟩
           ·rw [if_neg c11] at H; have c11b0 : decide (((Ch l0 x3_1).f0) ≤ (wrap64 (((Ch l0 (ji8)).f1) + 1))) = false := decide_eq_false c11; clear c11; have H' := zk H; clear H; have p375 : 0 ≤ (x3_1 : Int) := zT; have q375 : x3_1 < (l0.length : Int) := zT; obtain ⟨ad375, e375, hx375_0, hx375_1⟩ := Eo HR0.out x3_1 p375 q375; cases e375; replace p375 := eq_true p375; replace q375 := eq_true q375; have p376 : 0 ≤ (x3_1 : Int) := zT; have q376 : x3_1 < (l0.length : Int) := zT; obtain ⟨ad376, e376, hx376_0, hx376_1⟩ := Eo HR0.out x3_1 p376 q376; obtain rfl : ad375 = ad376 := (by injection e376); replace p376 := eq_true p376; replace q376 := eq_true q376; have p377 : 0 ≤ (x3_1 : Int) := zT; have q377 : x3_1 < (l0.length : Int) := zT; obtain ⟨ad377, e377, hx377_0, hx377_1⟩ := Eo HR0.out x3_1 p377 q377; obtain rfl : ad375 = ad377 := (by injection e377); replace p377 := eq_true p377; replace q377 := eq_true q377; have p378 : 0 ≤ (x3_1 : Int) := zT; have q378 : x3_1 < (l0.length : Int) := zT; obtain ⟨ad378, e378, hx378_0, hx378_1⟩ := Eo HR0.out x3_1 p378 q378; obtain rfl : ad375 = ad378 := (by injection e378); replace p378 := eq_true p378; replace q378 := eq_true q378; have p379 : 0 ≤ (x3_1 : Int) := zT; have q379 : x3_1 < (l0.length : Int) := zT; obtain ⟨ad379, e379, hx379_0, hx379_1⟩ := Eo HR0.out x3_1 p379 q379; obtain rfl : ad375 = ad379 := (by injection e379); replace p379 := eq_true p379; replace q379 := eq_true q379; have p380 : 0 ≤ ((ji8) : Int) := zT; have q380 : (ji8) < (l0.length : Int) := zT; obtain ⟨ad380, e380, hx380_0, hx380_1⟩ := Eo HR0.out (ji8) p380 q380; obtain rfl : ad375 = ad380 := (by injection e380); replace p380 := eq_true p380; replace q380 := eq_true q380; go_wp2
            repeat (go_quiet (fail); try go_wp2)
            go_roundg k1
            case measure => have := HK1.out; omega
            case rel => exact ⟨(wrap64 (x3_1 + 1)), zR, H', ⟨by have := HK1.out; omega⟩, by repeat (first | exact Eg.refl _ | apply Eg.step)⟩
          ·rw [if_neg c10] at H; cases H
         ·rw [if_neg c9] at H; cases H
        ·rw [if_neg c7] at H; have c7b0 : decide (0 < x3_1) = false := decide_eq_false c7; clear c7; have H' := zk H; clear H; have p375 : 0 ≤ (x3_1 : Int) := zT; have q375 : x3_1 < (l0.length : Int) := zT; obtain ⟨ad375, e375, hx375_0, hx375_1⟩ := Eo HR0.out x3_1 p375 q375; cases e375; replace p375 := eq_true p375; replace q375 := eq_true q375; have p376 : 0 ≤ (x3_1 : Int) := zT; have q376 : x3_1 < (l0.length : Int) := zT; obtain ⟨ad376, e376, hx376_0, hx376_1⟩ := Eo HR0.out x3_1 p376 q376; obtain rfl : ad375 = ad376 := (by injection e376); replace p376 := eq_true p376; replace q376 := eq_true q376; have p377 : 0 ≤ (x3_1 : Int) := zT; have q377 : x3_1 < (l0.length : Int) := zT; obtain ⟨ad377, e377, hx377_0, hx377_1⟩ := Eo HR0.out x3_1 p377 q377; obtain rfl : ad375 = ad377 := (by injection e377); replace p377 := eq_true p377; replace q377 := eq_true q377; have p378 : 0 ≤ (x3_1 : Int) := zT; have q378 : x3_1 < (l0.length : Int) := zT; obtain ⟨ad378, e378, hx378_0, hx378_1⟩ := Eo HR0.out x3_1 p378 q378; obtain rfl : ad375 = ad378 := (by injection e378); replace p378 := eq_true p378; replace q378 := eq_true q378; go_wp2
         repeat (go_quiet (fail); try go_wp2)
         go_roundg k1
         case measure => have := HK1.out; omega
         case rel => exact ⟨(wrap64 (x3_1 + 1)), zR, H', ⟨by have := HK1.out; omega⟩, by repeat (first | exact Eg.refl _ | apply Eg.step)⟩
    ·rw [if_neg c3] at H; cases H
   ·rw [if_neg c2] at H; have c2b0 : decide (x3_1 < (l0.length : Int)) = false := decide_eq_false c2; clear c2; obtain rfl := Option.some.inj H; go_wp2
    repeat (go_quiet (fail); try go_wp2)
    go_ret
    exact ⟨by first | rfl | (simp; done) | (simp [*]; done), by repeat (first | exact Eg.refl _ | apply Eg.step)⟩
def Em (p : Nat → Bool) : Array Value := ((List.range 256).map fun i => Value.bool (p i)).toArray
theorem Hn (p : Nat → Bool) : (Em p).size = 256 := by simp [Em]
theorem Jk (p : Nat → Bool) (i : Nat) (h : i < 256) : (Em p)[i]? = some (.bool (p i)) := by simp [Em, h]
theorem Kb {p q : Nat → Bool} (h : ∀ i, i < 256 → p i = q i) : Em p = Em q := by
 unfold Em; congr 1; exact List.map_congr_left fun i hi => by rw [h i (List.mem_range.1 hi)]
theorem Tz (p : Nat → Bool) (i : Nat) (b : Bool) : (Em p).setIfInBounds i (.bool b) = Em (fun j => if j = i then b else p j) := by
 apply Array.ext
 ·simp [Em]
 ·intro j h1 h2; have hj : j < 256 := by simpa [Em] using h2
  rw [Array.getElem_setIfInBounds (by rw [Hn]; exact hj)]; by_cases h : i = j
  ·subst h; simp [Em]
  ·rw [if_neg h]; simp [Em, Ne.symm h]
theorem Jj : Tryz.zeroCells92 = Em fun _ => false := by kernel_rfl
theorem Ir (w : World) (o o' : Obj) : ((w.alloc o).alloc o').heap[w.heap.size + 1]? = some o' := by
 have h := Fl (w.alloc o) o'; rwa [show (w.alloc o).heap.size = w.heap.size + 1 from by simp only [World.alloc, Array.size_push]] at h
theorem Lw {P : Program} {op : Oper} {a : Act} {w : World} {K : Act → World → Prop} {Q : Exit → Act → World → Prop} (ty : TypeId) (x : Operand) (ho : op.op = .load ty x)
 (g : Nat) (hx : a.eval x = .pointer (some ⟨g, 0, none⟩)) (c : Array Value) (hg : w.heap[g]? = some (.cells c ty (0, 0))) (n : Nat) (e : TypeId) (hu : P.underlying ty = some (.array n e)) (hi : (P.info? ty).map (·.size) = some c.size)
 (h : K (a.put op.dst (.agg c)) w) : op.wp P a w K Q := by
 unfold Oper.wp execOp; simp only [ho, hx, Instr.loadAt, Instr.sureAddr, Sem.run_bind, Sem.run_pure, Result.andThen_ok, run_loadVar_row _ _ ty ty c (0, 0) _ hg hu rfl hi]; exact h
theorem Kk {P : Program} (w : World) (g : Nat) (t : TypeId) (c c' : Array Value) (hg : w.heap[g]? = some (.cells c t (0, 0))) (hi : (P.info? t).map (·.size) = some c'.size) (hs : c.size = c'.size) (h1 : c'.all (·.oneCell') = true) :
 Sem.run P (storeCells ⟨g, 0, none⟩ c'.toList 0) w = .ok () (w.setRow g c') := by
 have h := run_storeVar_row (P := P) w g t t c c' hg hi hs h1; cases hq : P.info? t with
 | none => simp [hq] at hi
 | some i =>
  have hs : i.size = c'.size := by simp [hq] at hi; omega
  simpa [storeVar, sizeOf, typeInfo, hq, hs, Value.cells] using h
theorem Tx (w : World) (g : Nat) (c c' : Array Value) {t : TypeId} (hg : w.heap[g]? = some (.cells c t (0, 0))) : (w.setRow g c').heap[g]? = some (.cells c' t (0, 0)) := setRow_heap w g c c' t (0, 0) hg
theorem Ou (p : Nat → Bool) : (Em p).all (·.oneCell') = true := by
 rw [Array.all_eq_true_iff_forall_mem]; intro v hv; simp [Em] at hv; obtain ⟨i, _, rfl⟩ := hv; rfl
theorem hu92 : Tryz.prog.underlying 92 = some (.array 256 4) := by kernel_rfl
theorem hi92 (p : Nat → Bool) : (Tryz.prog.info? 92).map (·.size) = some (Em p).size := by rw [Hn]; kernel_rfl
theorem w64' {x : Int} (h0 : -9223372036854775808 ≤ x) (h1 : x ≤ 9223372036854775807) : wrap64 x = x := by unfold wrap64; omega
def Ol (r : S58) (i : Nat) : Bool := decide (r.f0 ≤ i) && decide ((i : Int) ≤ r.f1)
def Ia (l : List S58) (i : Nat) : Bool := l.any fun r => Ol r i
def Hh (r : S58) : Bool := decide (0 ≤ r.f0) && decide (r.f0 ≤ r.f1) && decide (r.f1 ≤ 255)
theorem R3Members.calls (k : Nat) (A0 : Option Addr) (c0 : Nat) (l0 : List S58) (b : Bool) (w : World) (hr0 : Kd.C k58 w A0 l0.length l0) (hc0 : l0.length ≤ c0) (h : Bc.f k l0 = some b) (hok : b = true → ∀ r ∈ l0, Hh r = true) (hsm : l0.length ≤ 8796093022207) :
 Calls Tryz.prog 65 #[.slice A0 l0.length c0] w fun e w' => e = .returned (.agg (Em fun i => b && Ia l0 i)) ∧ Below w.heap.size w w' := by
 have HR0 := zk hr0; have HC0 := zk hc0; clear hr0 hc0; have HB := zk (Below.refl w.heap.size w); have HRw := HR0; cases b with
 | false =>
  go_enter Tryz.func65, Tryz.ntmps65
  go_wp2_with (go_at_call 52; (with_reducible refine (Bc.calls k _ _ l0 _ _ ?side1 ?side2 h).mono ?_); (case side1 => exact zc HR0.out); (case side2 => exact HC0.out); rintro e w1 ⟨rfl, hb⟩; have B2 := zk (show w1.heap[w.heap.size]? = some (.cells (Em fun _ => false) 92 (0, 0)) by obtain ⟨n, rfl⟩ := hb.out; rw [← Jj]; exact Bj (Be (Fl w _) _) _); have B3 := zk (show w1.heap[w.heap.size + 1]? = some (.cells (Em fun _ => false) 92 (0, 0)) by obtain ⟨n, rfl⟩ := hb.out; rw [← Jj]; exact Bj (Ir w _ _) _); have n1_ := zk (Dz (Ct (Ct HB.out _) _) hb.below); have n2_ := zk (Kd.C_below (Kd.C_alloc (Kd.C_alloc HR0.out _) _) hb.below); clear HB HR0 hb; have HB := n1_; have HR0 := n2_; clear n1_ n2_)
  refine Lw 92 (.tmp 3) rfl (w.heap.size + 1) rfl _ B3.out 256 4 hu92 (hi92 _) ?_; go_wp2
  rw [Kk w1 w.heap.size 92 _ (Em fun _ => false) B2.out (hi92 _) (by simp [Hn]) (Ou _)]; have hB := Tx w1 w.heap.size _ (Em fun _ => false) B2.out; go_wp2
  refine bodyPost_ret (results_cell_row (by exact Tryz.results65) _ _ w.heap.size 92 (Em fun _ => false) (0, 0) (.array 256 4) ?hp hB hu92 rfl (hi92 _)) rfl ?_
  case hp => rfl
  exact ⟨by simp only [Bool.false_and], below_setRow HB.out (Nat.le_refl _) _⟩
 | true =>
  go_enter Tryz.func65, Tryz.ntmps65
  go_wp2_with (go_at_call 52; (with_reducible refine (Bc.calls k _ _ l0 _ _ ?side1 ?side2 h).mono ?_); (case side1 => exact zc HR0.out); (case side2 => exact HC0.out); rintro e w1 ⟨rfl, hb⟩; have B2 := zk (show w1.heap[w.heap.size]? = some (.cells (Em fun _ => false) 92 (0, 0)) by obtain ⟨n, rfl⟩ := hb.out; rw [← Jj]; exact Bj (Be (Fl w _) _) _); have B3 := zk (show w1.heap[w.heap.size + 1]? = some (.cells (Em fun _ => false) 92 (0, 0)) by obtain ⟨n, rfl⟩ := hb.out; rw [← Jj]; exact Bj (Ir w _ _) _); have n1_ := zk (Dz (Ct (Ct HB.out _) _) hb.below); clear HB hb; have HB := n1_; clear n1_)
  have hgt := hok trivial; go_loopg [4] (l0.length + 1) (fun kq v4 w' => ∃ n : Nat, v4 = .int .i64 (n : Int) ∧ Aa (n + kq = l0.length + 1 ∧ n ≤ l0.length) ∧ Aa (w'.heap[w.heap.size]? = some (.cells (Em fun _ => false) 92 (0, 0))) ∧ Aa (w'.heap[w.heap.size + 1]? = some (.cells (Em fun i => Ia (l0.take n) i) 92 (0, 0))) ∧ Aa (Below w.heap.size w w'))
  case atStart => exact ⟨0, rfl, ⟨by omega, by omega⟩, B2, ⟨by simpa [Ia] using B3.out⟩, HB⟩
  case round =>
   obtain ⟨n, rfl, HN, C2, C3, HB'⟩ := hrel; have hN := HN.out
   cases gk with
   | zero => exact absurd hN (by omega)
   | succ ko =>
   by_cases c : n < l0.length
   ·have p : 0 ≤ (n : Int) := by omega
    have q : (n : Int) < (l0.length : Int) := by omega
    obtain ⟨ad, e, hx0, hx1⟩ := Eo (Kd.C_below HRw.out HB'.out) n p q; cases e; simp only [Int.toNat_natCast] at hx0 hx1; have cb : decide ((n : Int) < (l0.length : Int)) = true := decide_eq_true q; have hnr := zk (show l0[n]? = some (Ch l0 n) by simp [Ch, List.getD, c]); have hr := zk (show Hh (Ch l0 n) = true from hgt _ (List.mem_of_getElem? hnr.out)); have c0_ := zk c; have cb2 : decide (n < l0.length) = true := decide_eq_true c; clear c hN; replace p := eq_true p; replace q := eq_true q; go_wp2
    clear hx0 hx1; generalize hrr : Ch l0 n = r at hr hnr ⊢; have hb : 0 ≤ r.f0 ∧ r.f0 ≤ r.f1 ∧ r.f1 ≤ 255 := by simpa [Hh, and_assoc] using hr.out
    have e0 : ((r.f0.toNat : Nat) : Int) = r.f0 := Int.toNat_of_nonneg hb.1; have hm0 : r.f0.toNat ≤ 255 := by omega
    go_loopg [5] (512 - r.f0.toNat) (fun kq v5 w' => ∃ m : Nat, v5 = .int .i64 (m : Int) ∧ Aa (m + kq = 512) ∧ Aa (r.f0 ≤ m ∧ (m : Int) ≤ r.f1 + 1) ∧ Aa (w'.heap[w.heap.size]? = some (.cells (Em fun _ => false) 92 (0, 0))) ∧ Aa (w'.heap[w.heap.size + 1]? = some (.cells (Em fun i => Ia (l0.take n) i || (decide (r.f0 ≤ i) && decide (i < m))) 92 (0, 0))) ∧ Aa (Below w.heap.size w w'))
    case atStart => exact ⟨r.f0.toNat, by rw [e0], ⟨by omega⟩, ⟨by omega⟩, C2, ⟨by rw [C3.out, Kb (fun i _ => (by
     have : (decide (r.f0 ≤ (i : Int)) && decide (i < r.f0.toNat)) = false := by simp <;> omega
     rw [this, Bool.or_false] : Ia (l0.take n) i = (Ia (l0.take n) i || (decide (r.f0 ≤ (i : Int)) && decide (i < r.f0.toNat)))))]⟩, HB'⟩
    case round =>
     obtain ⟨m, rfl, HT, HL, D2, D3, HB2⟩ := hrel; have hL := HL.out; have hT := HT.out; obtain ⟨ad2, e2, hx0, hx1⟩ := Eo (Kd.C_below HRw.out HB2.out) n (by omega) (by have := c0_.out; omega); obtain rfl : ad = ad2 := by injection e2
     simp only [Int.toNat_natCast, hrr] at hx0 hx1
     cases gk with
     | zero => exact absurd hT (by omega)
     | succ k1 =>
      by_cases d : (m : Int) ≤ r.f1
      ·have db : decide ((m : Int) ≤ r.f1) = true := decide_eq_true d; have p2 : (0 ≤ (m : Int)) = True := eq_true (by omega); have q2 : ((m : Int) < 256) = True := eq_true (by omega); have hc := Ag D3.out m; rw [Jk _ _ (by omega)] at hc; have hf := Ac D3.out m; have d_ := zk d; clear d hL hT; go_wp2
       have hL := HL.out; have hT := HT.out; have d := d_.out; go_roundg k1
       case measure => omega
       case rel => exact ⟨m + 1, by rw [w64' (by omega) (by omega)]; simp, ⟨by omega⟩, ⟨by omega⟩, ⟨Nb D2.out (by simp) _⟩, ⟨Ca D3.out m _ ((Tz _ _ _).trans (Kb fun i _ => (by
        by_cases hi : i = m
        ·subst hi; simp; right; omega
        ·rw [if_neg hi]; have : decide (i < m + 1) = decide (i < m) := by rw [decide_eq_decide]; omega
         rw [this])))⟩, ⟨Gv HB2.out (Nat.le_succ _)⟩⟩
      ·have db : decide ((m : Int) ≤ r.f1) = false := decide_eq_false d; have d_ := zk d; clear d hL hT; go_wp2
       have hL := HL.out; have hT := HT.out; have d := d_.out; have c := c0_.out; have hN := HN.out; go_roundg ko
       case measure => omega
       case rel => exact ⟨n + 1, by rw [w64' (by omega) (by omega)]; simp, ⟨by omega, by omega⟩, D2, ⟨by rw [D3.out, Kb (fun i _ => (by
        have e1 : l0.take (n + 1) = l0.take n ++ [r] := by rw [List.take_add_one, hnr.out]; rfl
        have e2 : decide (i < m) = decide ((i : Int) ≤ r.f1) := by rw [decide_eq_decide]; omega
        rw [e1, e2]; simp [Ia, Ol] : (Ia (l0.take n) i || (decide (r.f0 ≤ (i : Int)) && decide (i < m))) = Ia (l0.take (n + 1)) i))]⟩, HB2⟩
   ·have hn := zk (show n = l0.length by omega); have cb : decide ((n : Int) < (l0.length : Int)) = false := decide_eq_false (by omega); have cb2 : decide (n < l0.length) = false := decide_eq_false c; clear c hN; go_wp2
    refine Lw 92 (.tmp 3) rfl (w.heap.size + 1) rfl _ C3.out 256 4 hu92 (hi92 _) ?_; go_wp2
    rw [Kk _ w.heap.size 92 _ (Em fun i => Ia (l0.take n) i) C2.out (hi92 _) (by simp [Hn]) (Ou _)]; have hB := Tx _ w.heap.size _ (Em fun i => Ia (l0.take n) i) C2.out; go_wp2
    refine bodyPost_ret (results_cell_row (by exact Tryz.results65) _ _ w.heap.size 92 (Em fun i => Ia (l0.take n) i) (0, 0) (.array 256 4) ?hp hB hu92 rfl (hi92 _)) rfl ?_
    case hp => rfl
    exact ⟨by simp only [Bool.true_and]; rw [hn.out, List.take_length], below_setRow HB'.out (Nat.le_refl _) _⟩
def hasP (p : Nat → Bool) (x : Int) : Bool := if 0 ≤ x then if x ≤ 255 then p x.toNat else false else false
def Ej (b : Bool) (l : List S58) (i : Nat) : Bool := b && Ia l i
def Ey (k : Nat) (l0 : List S58) : Option (Nat → Bool) := (Bc.f k l0).bind fun b => if l0.length ≤ 8796093022207 then (if b = true then (if l0.all Hh = true then some (Ej true l0) else none) else some (Ej false l0)) else none
theorem Mr {k : Nat} {l0 : List S58} {p : Nat → Bool} (h : Ey k l0 = some p) : ∃ b, Bc.f k l0 = some b ∧ p = Ej b l0 ∧ (b = true → ∀ r ∈ l0, Hh r = true) ∧ l0.length ≤ 8796093022207 := by
 obtain ⟨b, h1, h2⟩ := Option.bind_eq_some_iff.mp h; by_cases c : l0.length ≤ 8796093022207
 ·rw [if_pos c] at h2; cases b with
  | true =>
   simp only [if_true] at h2; by_cases d : l0.all Hh = true
   ·rw [if_pos d] at h2; exact ⟨true, h1, (Option.some.inj h2).symm, fun _ => List.all_eq_true.1 d, c⟩
   ·rw [if_neg d] at h2; cases h2
  | false =>
   simp only [Bool.false_eq_true, if_false] at h2; exact ⟨false, h1, (Option.some.inj h2).symm, fun h => (by cases h), c⟩
 ·rw [if_neg c] at h2; cases h2
def cntB (p : Nat → Bool) : Nat → Nat
 | 0 => 0
 | n + 1 => cntB p n + if p n = true then 1 else 0
theorem Lf (p : Nat → Bool) : ∀ n, cntB p n ≤ n
 | 0 => Nat.le_refl _
 | n + 1 => by have := Lf p n; simp only [cntB]; split <;> omega
theorem Ij (w : World) (p : Nat → Bool) : Sem.run Tryz.prog (storeCells ⟨w.heap.size, 0, none⟩ (Em p).toList 0) (w.alloc (.cells Tryz.zeroCells92 92)) = .ok () (w.alloc (.cells (Em p) 92)) :=
 run_storeCells_new w 92 Tryz.zeroCells92 (Em p) (hi92 p) (by rw [Jj, Hn, Hn]) (Ou p)
end Go.Proofs.I
