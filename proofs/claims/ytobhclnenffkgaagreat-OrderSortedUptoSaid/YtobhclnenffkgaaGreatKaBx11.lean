/- Words and walks of this claim, of the text Bx11. -/
import Derived.Test.YtobhclnenffkgaaGreatKaQW0
import Derived.Test.YtobhclnenffkgaaGreatKaBx0
import Derived.Test.YtobhclnenffkgaaGreatKaBx10
namespace Go.Proofs.YtobhclnenffkgaaGreat.B
open Go.RowKit Go.Proofs.YtobhclnenffkgaaGreatW.PrintWords Go.Proofs.YtobhclnenffkgaaGreatW.PrintLast Go.Proofs.YtobhclnenffkgaaGreatW.PrintMore
set_option maxHeartbeats 8000000
set_option maxRecDepth 100000
attribute [local go_sem] max2_int min2_int max_two min_two max_three min_three max_four min_four
set_option linter.unusedVariables false
set_option linter.unusedSimpArgs false
def leadtrailref08_Copy.l0 : Nat → Int → List (S48) → List (S48) → Option ((List (S48)))
 | 0, _, _, _ => none
 | k + 1, x4, x376000, x378000 => if x4 < (x376000.length : Int) then (if 0 ≤ x4 then ((leadtrailref08_CopyShape.f k ((rd_T48 x376000 x4).f0) ((rd_T48 x376000 x4).f1)).bind fun bt379 => (if x378000.length < 4398046511104 then (leadtrailref08_Copy.l0 k (wrap64 (x4 + 1)) x376000 (x378000 ++ [(⟨bt379.1, bt379.2⟩ : S48)])) else (none))) else (none)) else (some x378000)
def leadtrailref08_Copy.f (k : Nat) (l0_0 : List (S48)) : Option ((List (S48))) := leadtrailref08_Copy.l0 k 0 l0_0 ([] : List (S48))
def leadtrailref08_Copy.T5 : Bool × List (List Nat × List Nat) := (true, [([], []), ([0], [0]), ([], []), ([2], [2]), ([], []), ([3, 4], [3, 4]), ([5], [5]), ([6], [6]), ([7], [7]), ([1, 8, 7], [1, 8]), ([0, 1, 2, 3, 4, 5, 6, 7, 8, 9], []), ([10, 9, 9, 0, 1, 2, 3, 4, 5, 6, 7, 8, 9], [9, 10])])
def leadtrailref08_Copy.B5 : List Nat := [0, 1, 0, 4, 0, 28, 60, 124, 252, 511, 1023, 2047]
theorem leadtrailref08_Copy.tab5 : rtab .any (opsOf Tryz.f6 5) = leadtrailref08_Copy.T5 := by kernel_rfl
theorem leadtrailref08_Copy.bits5 : waitsOk leadtrailref08_Copy.T5.2 leadtrailref08_Copy.B5 = true := by kernel_rfl
theorem leadtrailref08_Copy.calls (k : Nat) (A0_0 : Option Addr) (c0_0 : Nat) (l0_0 : List (S48)) (r : List (S48)) (w : World) (hr0_0 : Kd.C k48 w A0_0 l0_0.length l0_0) (hc0_0 : l0_0.length ≤ c0_0) (h : leadtrailref08_Copy.f k l0_0 = some r) :
 Calls Tryz.prog 6 #[.agg #[.slice A0_0 l0_0.length c0_0]] w fun e w' => ∃ v0_ : Value, e = .returned (.agg #[v0_]) ∧ Kd.R k48 48 w' w.heap.size (fun _ => True) v0_ r ∧ Below w.heap.size w w' := by
 have hu24 := Tryz.underlying24; have hu48 := Tryz.underlying48; have HR0_0 := zk hr0_0; have HC0_0 := zk hc0_0; clear hr0_0 hc0_0; have HB := zk (Below.refl w.heap.size w); have H : (leadtrailref08_Copy.l0 k 0 l0_0 ([] : List (S48))) = some r := h; clear h; have H' := zk H; clear H; go_enter Tryz.func6, Tryz.ntmps6
 go_wp2_with (first | ((with_reducible refine gate_dst (N := 1) rfl ?_); refine box_event ?hg (N := 1) ?hd (cs := #[.slice A0_0 l0_0.length c0_0]) (t := 24) ?hr ?_; (case hd => rfl); (case hg => rfl); (case hr => first | (go_simp; done) | (go_simp; rfl)); intro gb375 hg w2 hbox hb; have BK375 := zk (hbox); have GE375 := zk ((zg hg HB.out : w.heap.size ≤ gb375)); replace HB := zs HB hb;  clear hb hbox hg) | ((with_reducible refine gate_dst (N := 2) rfl ?_); refine box_event ?hg (N := 2) ?hd (cs := #[.slice none 0 0]) (t := 24) ?hr ?_; (case hd => rfl); (case hg => rfl); (case hr => first | (go_simp; done) | (go_simp; rfl)); intro gb376 hg w3 hbox hb; have BK376 := zk (hbox); have GE376 := zk ((zg hg HB.out : w.heap.size ≤ gb376)); replace HB := zs HB hb; have NB375_376 := zk ((zlt hg BK375.out : gb375 ≠ gb376)); have NB376_375 := zk ((zgt hg BK375.out : gb376 ≠ gb375)); replace BK375 := zk (zbb BK375.out hb);  clear hb hbox hg) | ((with_reducible refine gate_dst (N := 3) rfl ?_); refine box_event ?hg (N := 3) ?hd (cs := #[.slice none 0 0]) (t := 24) ?hr ?_; (case hd => rfl); (case hg => rfl); (case hr => first | (go_simp; done) | (go_simp; rfl)); intro gb377 hg w4 hbox hb; have BK377 := zk (hbox); have GE377 := zk ((zg hg HB.out : w.heap.size ≤ gb377)); replace HB := zs HB hb; have NB375_377 := zk ((zlt hg BK375.out : gb375 ≠ gb377)); have NB377_375 := zk ((zgt hg BK375.out : gb377 ≠ gb375)); replace BK375 := zk (zbb BK375.out hb); have NB376_377 := zk ((zlt hg BK376.out : gb376 ≠ gb377)); have NB377_376 := zk ((zgt hg BK376.out : gb377 ≠ gb376)); replace BK376 := zk (zbb BK376.out hb);  clear hb hbox hg; have hnb5 := NB377_375.out; have hnc5 := NB375_377.out; have hnb6 := NB377_376.out; have hnc6 := NB376_377.out; have hcz7_0 : w4.cell? ⟨gb377, 0, none⟩ = some (.slice none 0 0) := zh BK377.out 0; have hfz7_0 := blk_frozen BK377.out 0))
 go_loopg [4] k (fun kq v4 w' => ∃ (x4_1 : Int) (x378000_1 : List (S48)) (u378000 : Value), v4 = .int .i64 x4_1 ∧ Aside0 (leadtrailref08_Copy.l0 kq x4_1 l0_0 x378000_1 = some r) ∧ Aside0 (kq ≤ k) ∧ Aside0 (Kd.R k48 48 w' w.heap.size (fun _ => True) u378000 x378000_1) ∧ Aside0 (w'.heap[gb375]? = some (.cells #[(.slice A0_0 l0_0.length c0_0)] 24 (0, 0))) ∧ Aside0 (w'.heap[gb376]? = some (.cells #[(.slice none 0 0)] 24 (0, 0))) ∧ Aside0 (w'.heap[gb377]? = some (.cells #[u378000] 24 (0, 0))) ∧ Aside0 (Below w.heap.size w w'))
 case atStart => exact ⟨(0), (([] : List (S48))), (.slice none 0 0), zR, H', ⟨Nat.le_refl _⟩, ⟨by first | exact Kd.R_nil _ _ _ _ _ | exact Kd.N_nil _ _ _ _ _ | exact Kd.V_nil _ _ _ _ _ | exact Kd.Q_nil _ _ _ _ _ | exact Kd.S_nil _ _ _ _ _⟩, ⟨zb BK375.out⟩, ⟨zb BK376.out⟩, ⟨by (with_reducible repeat (first | refine blk_drewN ?_ _ | refine blk_drew ?_ | refine blk_alloc ?_ _)); refine blk_put (cs := #[.slice none 0 0]) ?_ 0 _ rfl; exact zb BK377.out⟩, ⟨zU HB.out⟩⟩
 case round =>
  clear H'; (try clear p2); (try clear c5); (try clear c6); (try clear hcz7_0); (try clear hfz7_0); obtain ⟨x4_1, x378000_1, u378000, rfl, HA, HK1, HO_378000, BK375, BK376, BK377, HB⟩ := hrel
  cases gk with
  | zero => exact absurd HA.out (by simp [leadtrailref08_Copy.l0])
  | succ k1 =>
   have H := HA.out; clear HA; simp only [leadtrailref08_Copy.l0] at H; by_cases c8 : x4_1 < (l0_0.length : Int)
   ·rw [if_pos c8] at H; have c8b0 : decide (x4_1 < (l0_0.length : Int)) = true := decide_eq_true c8; clear c8; by_cases c9 : 0 ≤ x4_1
    ·rw [if_pos c9] at H; have c9b0 : decide (0 ≤ x4_1) = true := decide_eq_true c9; clear c9; replace H := Option.bind_eq_some_iff.mp H; obtain ⟨⟨t379, t382⟩, A100, H⟩ := H; replace H : (if x378000_1.length < 4398046511104 then (leadtrailref08_Copy.l0 k1 (wrap64 (x4_1 + 1)) l0_0 (x378000_1 ++ [(⟨t379, t382⟩ : S48)])) else (none)) = some r := H; have A10 := zk A100; clear A100; by_cases c11 : x378000_1.length < 4398046511104
     ·rw [if_pos c11] at H; have LMc11 := zk c11; clear c11; obtain ⟨y383, hy383⟩ : ∃ y_ : List (S48), y_ = (x378000_1 ++ [(⟨t379, t382⟩ : S48)]) := ⟨_, rfl⟩
      replace H : (leadtrailref08_Copy.l0 k1 (wrap64 (x4_1 + 1)) l0_0 y383) = some r := by first | (rw [hy383]; with_reducible exact H) | (have H2_ := (Option.bind_some _ _).symm.trans H; rw [hy383]; with_reducible exact H2_) | (have H2_ := (Option.bind_some _ _).symm.trans H; with_reducible exact H2_) | with_reducible exact H | (rw [hy383]; exact H) | exact H
      have Ny383 := zk hy383; clear hy383; have H' := zk H; clear H; have hnb12 := NB375_376.out; have hnc12 := NB376_375.out; have hnb13 := NB375_377.out; have hnc13 := NB377_375.out; have hcz14_0 : wr.cell? ⟨gb375, 0, none⟩ = some (.slice A0_0 l0_0.length c0_0) := zh BK375.out 0; have hfz14_0 := blk_frozen BK375.out 0; try go_wp2
      have n0_ := zk (Kd.R_drew HO_378000.out); have n1_ := zk (blk_drew BK375.out); have n2_ := zk (blk_drew BK376.out); have n3_ := zk (blk_drew BK377.out); have n4_ := zk (below_drew1 HB.out); clear HO_378000; clear BK375; clear BK376; clear BK377; clear HB; have HO_378000 := n0_; have BK375 := n1_; have BK376 := n2_; have BK377 := n3_; have HB := n4_; clear n0_ n1_ n2_ n3_ n4_; have p378 : 0 ≤ (x4_1 : Int) := zT; have q378 : x4_1 < (l0_0.length : Int) := zT; obtain ⟨ad378, A378_0, c378_0, e378, hx378_0, hx378_1, hl378_0, hi378_0⟩ := at_T48 HR0_0.out x4_1 p378 q378; have hw378_1 := hx378_1; have hw378_0 := hx378_0; cases e378; replace hx378_0 := zcl HB.out hx378_0; replace hx378_1 := zcl HB.out hx378_1; have HR378_0 := zk hi378_0; have HC378_0 := zk hl378_0; clear hi378_0 hl378_0; replace p378 := eq_true p378; replace q378 := eq_true q378; refine start_ (n := 12) (S := fun w' => w'.cell? ⟨gb377, 0, none⟩ = some (u378000) ∧ w'.cell? ⟨gb375, 0, none⟩ = some (.slice (some ad378) l0_0.length c0_0) ∧ w'.cell? (ad378.add ((x4_1).toNat * 2)) = some (.slice A378_0 ((rd_T48 l0_0 x4_1).f0).length c378_0) ∧ w'.cell? ⟨(ad378.add ((x4_1).toNat * 2)).block, (ad378.add ((x4_1).toNat * 2)).off + 1, none⟩ = some (.int .i64 ((rd_T48 l0_0 x4_1).f1))) (ds := [11]) #[false, false, false, false, false, false, false, false, false, false, false, false] zz rfl rfl ⟨(blk_cell BK377.out 0).trans rfl, (blk_cell BK375.out 0).trans rfl, (zcl HB.out hw378_0), (zcl HB.out hw378_1)⟩ (fun hHeld => ?_); refine with_tabW leadtrailref08_Copy.tab5 leadtrailref08_Copy.bits5 (fun HT_ HW_ => ?_); generalize wr.drew = w15 at HO_378000 BK375 BK376 BK377 HB HR378_0 hx378_0 hx378_1 hHeld ⊢; refine zp 0 (some 13) (v := ?_) (a' := ?_) (bz 12 1) rfl rfl HT_.out zz zQ ?_ ?_ ?_; rotate_left
      ·intro w'; go_simp; with_reducible rfl
      rotate_left
      ·simp only [zy]; rfl
      refine zp 2 (some 15) (v := ?_) (a' := ?_) (bz 12 5) rfl rfl HT_.out zz zQ ?_ ?_ ?_; rotate_left
      ·intro w'; go_simp; with_reducible rfl
      rotate_left
      ·simp only [zy]; rfl
      refine zp 4 (some 17) (v := ?_) (a' := ?_) (bz 12 21) rfl rfl HT_.out zz zQ ?_ ?_ ?_; rotate_left
      ·intro w'; go_simp; with_reducible rfl
      rotate_left
      ·simp only [zy]; rfl
      refine take_ (i := 1) (N := some 14) (v := ?_) (a' := ?_) (bz 12 23) rfl rfl (take_ofW HT_.out HW_.out zz) zQ (Or.inl ⟨by rfl, ?_⟩) hHeld ?_ ?_; rotate_left
      ·rintro w' ⟨s0, s1, s2, s3⟩; go_simp; with_reducible rfl
      rotate_left
      ·simp only [zy]; rfl
      refine take_ (i := 3) (N := some 16) (v := ?_) (a' := ?_) (bz 12 31) rfl rfl (take_ofW HT_.out HW_.out zz) zQ (Or.inl ⟨by rfl, ?_⟩) hHeld ?_ ?_; rotate_left
      ·rintro w' ⟨s0, s1, s2, s3⟩; go_simp; with_reducible rfl
      rotate_left
      ·simp only [zy]; rfl
      refine zp 5 (some 18) (v := ?_) (a' := ?_) (bz 12 63) rfl rfl HT_.out zz zQ ?_ ?_ ?_; rotate_left
      ·intro w'; go_simp; with_reducible rfl
      rotate_left
      ·simp only [zy]; rfl
      refine take_ (i := 6) (N := some 19) (v := ?_) (a' := ?_) (bz 12 127) rfl rfl (take_ofW HT_.out HW_.out zz) zQ (Or.inl ⟨by rfl, ?_⟩) hHeld ?_ ?_; rotate_left
      ·rintro w' ⟨s0, s1, s2, s3⟩; go_simp; with_reducible rfl
      rotate_left
      ·simp only [zy]; rfl
      refine one_ (i := 7) (N := some 20) (bz 12 255) rfl rfl (one_of HT_.out zz) (by decide) (fun K hK => ?_); refine goes_ Tryz.func21 zz rfl #[.agg #[.slice A378_0 ((rd_T48 l0_0 x4_1).f0).length c378_0, .int .i64 ((rd_T48 l0_0 x4_1).f1)]] (by rfl) rfl rfl zM ?_; with_reducible refine (leadtrailref08_CopyShape.calls k1 _ _ ((rd_T48 l0_0 x4_1).f0) ((rd_T48 l0_0 x4_1).f1) t379 t382 _ ?side1 ?side2 A10.out).mono ?_; (case side1 => exact zc (Kd.C_below HR378_0.out HB.out))
      (case side2 => exact HC378_0.out)
      rintro e w16 ⟨v380, rfl, ho0, hb⟩; refine ⟨_, rfl, ?_⟩; have n0_ := zk (Kd.R_elder' (zr HO_378000.out) (Kd.S_base ho0) hb); have n1_ := zk (Kd.S_lower ho0 (below_size (zU HB.out))); have n2_ := zk (zbb BK375.out hb); have n3_ := zk (zbb BK376.out hb); have n4_ := zk (zbb BK377.out hb); have n5_ := zs HB hb; clear HO_378000; clear BK375; clear BK376; clear BK377; clear HB; have HO_378000 := n0_; have HO381 := n1_; have BK375 := n2_; have BK376 := n3_; have BK377 := n4_; have HB := n5_; clear n0_ n1_ n2_ n3_ n4_ n5_; (try clear hb); (try clear hb2); (try clear hk); (try clear hi); (try clear ho0); obtain ⟨Ao18, co18, eo18⟩ := Kd.S_slice HO381.out
      (first | subst eo18 | (injection eo18 with f1_ f2_ f3_; have f4_ := f1_.symm; have f5_ := f3_.symm; clear f1_ f2_ f3_; subst f4_; subst f5_))
      refine hK.out _ _ ⟨(blk_cell BK377.out 0).trans rfl, (blk_cell BK375.out 0).trans rfl, (zcl HB.out hw378_0), (zcl HB.out hw378_1)⟩ (fun hHeld => ?_); clear hK K; refine norm_ (a' := ?_) ?_ ?_; rotate_left
      ·show Act.put _ (some 20) _ = _; simp only [zy]; rfl
      refine one_ (i := 8) (N := some 21) (bz 12 511) rfl rfl (one_of HT_.out zz) (by decide) (fun K hK => ?_); refine value_ (w1 := ?_) (v := ?_) (by rfl) rfl ?_ ?_; rotate_left 2
      ·go_simp; constructor
       ·rfl
       ·rfl
      refine hK.out _ _ ⟨(blk_cell (blk_alloc BK377.out _) 0).trans rfl, (blk_cell (blk_alloc BK375.out _) 0).trans rfl, (World.cell?_alloc_lt _ _ _ (World.block_lt_of_cell? _ _ ((zcl HB.out hw378_0)))).trans ((zcl HB.out hw378_0)), (World.cell?_alloc_lt _ _ _ (World.block_lt_of_cell? _ _ ((zcl HB.out hw378_1)))).trans ((zcl HB.out hw378_1))⟩ (fun hHeld => ?_); clear hK K; refine norm_ (a' := ?_) ?_ ?_; rotate_left
      ·show Act.put _ (some 21) _ = _; simp only [zy]; rfl
      refine one_ (i := 9) (N := some 22) (bz 12 1023) rfl rfl (one_of HT_.out zz) (by decide) (fun K hK => ?_); refine Kd.R_append_step k48 (w0 := w) w.heap.size (by rfl) (.tmp 14) (.tmp 21) 22 48 (.agg #[(.slice none 0 0), (.int .i64 0)]) 32 rfl Tryz.underlying22 info48 rfl (by decide) (by omega) u378000 x378000_1 (⟨t379, t382⟩ : S48) [.slice Ao18 t379.length co18, .int .i64 t382] (fun _ => True) (fun k_ => ((fun _ => True)) k_ ∧ some k_ ≠ (u378000 : Value).ownBlock) rfl rfl ?aP (fun _ hk => hk) ?aF ?aO ?aB ?aS ?aL ?_; (case aP => exact k48_mkM _ _ _ (⟨t379, t382⟩ : S48) (Kd.R_mono (Kd.R_apart' ((Kd.S_R HO381.out)) (Kd.R_typed HO_378000.out) (by decide)) (fun k_ hk => ⟨trivial, hk.2⟩)))
      (case aB => exact (zU HB.out))
      (case aF => exact (fun _ _ => trivial))
      (case aO => exact (by (with_reducible repeat (first | apply zA | apply zB | apply zC)); exact Kd.R_mono HO_378000.out (fun _ hk => trivial)))
      (case aS => exact (below_size (zU HB.out)))
      (case aL => have := LMc11.out; omega)
      intro v384 w17 ho hb hg hat; rw [← Ny383.out] at ho; have n0_ := zk (blk_grown (g := gb375) (o := .cells #[.slice (some ad378) l0_0.length c0_0] 24 (0, 0)) (zb BK375.out) hg (Kd.R_ne HO_378000.out BK375.out (by decide))); have n1_ := zk (blk_grown (g := gb376) (o := .cells #[.slice none 0 0] 24 (0, 0)) (zb BK376.out) hg (Kd.R_ne HO_378000.out BK376.out (by decide))); have n2_ := zk (blk_grown (g := gb377) (o := .cells #[u378000] 24 (0, 0)) (zb BK377.out) hg (Kd.R_ne HO_378000.out BK377.out (by decide))); have n3_ := zk (hb); have n4_ := zk (ho); clear BK375; clear BK376; clear BK377; clear HB; clear HO_378000; clear HO381; have BK375 := n0_; have BK376 := n1_; have BK377 := n2_; have HB := n3_; have HO385 := n4_; clear n0_ n1_ n2_ n3_ n4_; clear ho hb hg hat; obtain ⟨Ao19, co19, eo19⟩ := Kd.R_slice HO385.out
      (first | subst eo19 | (injection eo19 with f1_ f2_ f3_; have f4_ := f1_.symm; have f5_ := f3_.symm; clear f1_ f2_ f3_; subst f4_; subst f5_))
      refine hK.out _ _ ⟨(blk_cell BK377.out 0).trans rfl, (blk_cell BK375.out 0).trans rfl, (zcl HB.out hw378_0), (zcl HB.out hw378_1)⟩ (fun hHeld => ?_); clear hK K; refine norm_ (a' := ?_) ?_ ?_; rotate_left
      ·show Act.put _ (some 22) _ = _; simp only [zy]; rfl
      refine zp 10 (some 23) (v := ?_) (a' := ?_) (bz 12 2047) rfl rfl HT_.out zz zQ ?_ ?_ ?_; rotate_left
      ·intro w'; go_simp; with_reducible rfl
      rotate_left
      ·simp only [zy]; rfl
      refine last_ (i := 11) (N := none) (bz 12 4095) rfl rfl (one_of HT_.out zz) (by decide) (fun K hK => ?_); have hs20 : w17.cell? ⟨gb377, 0, none⟩ = some (u378000) := zh BK377.out 0; have hfs20 := blk_frozen BK377.out 0; have hns20_0 := NB375_377.out; have hns20_1 := NB376_377.out; have hms20_0 := NB377_375.out; have hms20_1 := NB377_376.out; refine skip_ (w1 := ?_) (by rfl) rfl ?_ ?_; rotate_left
      ·go_simp; rfl
      refine hK.out _ _ ?_; clear hK K; refine done_ (done_of HT_.out zz) ?_; try go_wp2
      go_roundg k1
      case measure => have := HK1.out; omega
      case rel => exact ⟨(wrap64 (x4_1 + 1)), (y383), (.slice Ao19 y383.length co19), zR, H', ⟨by have := HK1.out; omega⟩, ⟨by (with_reducible repeat (first | apply zA | apply zB | apply zC)); exact Kd.R_mono (Kd.R_far (p := ⟨gb377, 0, none⟩) (Kd.R_types HO385.out BK377.out (by decide)) (fun _ hk => hk.2) (.slice Ao19 y383.length co19)) (fun _ hk => trivial)⟩, ⟨zb BK375.out⟩, ⟨zb BK376.out⟩, ⟨by (with_reducible repeat (first | refine blk_drewN ?_ _ | refine blk_drew ?_ | refine blk_alloc ?_ _)); refine blk_put (cs := #[u378000]) ?_ 0 _ rfl; exact zb BK377.out⟩, ⟨zU HB.out⟩⟩
     ·rw [if_neg c11] at H; cases H
    ·rw [if_neg c9] at H; cases H
   ·rw [if_neg c8] at H; have c8b0 : decide (x4_1 < (l0_0.length : Int)) = false := decide_eq_false c8; clear c8; obtain rfl := Option.some.inj H; have hnb21 := NB375_376.out; have hnc21 := NB376_375.out; have hnb22 := NB375_377.out; have hnc22 := NB377_375.out; have hcz23_0 : wr.cell? ⟨gb375, 0, none⟩ = some (.slice A0_0 l0_0.length c0_0) := zh BK375.out 0; have hfz23_0 := blk_frozen BK375.out 0; have hnb24 := NB377_376.out; have hnc24 := NB376_377.out; have hcz25_0 : wr.cell? ⟨gb377, 0, none⟩ = some (u378000) := zh BK377.out 0; have hfz25_0 := blk_frozen BK377.out 0; obtain ⟨Ao26, co26, eo26⟩ := Kd.R_slice HO_378000.out; subst eo26; have hcz27_0 : wr.cell? ⟨gb376, 0, none⟩ = some (.slice none 0 0) := zh BK376.out 0; have hfz27_0 := blk_frozen BK376.out 0; go_wp2
    refine bodyPost_ret (results_cell_row rfl _ _ gb376 24 #[.slice Ao26 x378000_1.length co26] (0, 0) _ rfl (by (with_reducible repeat (first | refine blk_drewN ?_ _ | refine blk_drew ?_ | refine blk_alloc ?_ _)); refine blk_put (cs := #[.slice none 0 0]) ?_ 0 _ rfl; exact zb BK376.out) Tryz.underlying24 rfl zz) rfl ?_; exact ⟨_, ze, by (with_reducible repeat (first | apply zA | apply zB | apply zC)); exact Kd.R_mono (Kd.R_far (p := ⟨gb376, 0, none⟩) (Kd.R_types HO_378000.out BK376.out (by decide)) (fun _ hk => hk.2) (.slice Ao26 x378000_1.length co26)) (fun _ hk => trivial), zU HB.out⟩
def leadtrailref03_Valid.l0 : Nat → List (S69) → Int → Option (Bool)
 | 0, _, _ => none
 | k + 1, x0, x3 => if x3 < (x0.length : Int) then (if 0 ≤ x3 then (if ((rd_T69 x0 x3).f0) < 0 then (some false) else (if ((rd_T69 x0 x3).f0) > ((rd_T69 x0 x3).f1) then (some false) else (if ((rd_T69 x0 x3).f1) > 255 then (some false) else (if x3 > 0 then (if 0 ≤ (wrap64 (x3 - 1)) then (if (wrap64 (x3 - 1)) < (x0.length : Int) then (if ((rd_T69 x0 x3).f0) ≤ (wrap64 (((rd_T69 x0 (wrap64 (x3 - 1))).f1) + 1)) then (some false) else (leadtrailref03_Valid.l0 k x0 (wrap64 (x3 + 1)))) else (none)) else (none)) else (leadtrailref03_Valid.l0 k x0 (wrap64 (x3 + 1))))))) else (none)) else (some true)
def leadtrailref03_Valid.f (k : Nat) (l0 : List (S69)) : Option (Bool) := leadtrailref03_Valid.l0 k l0 0
theorem leadtrailref03_Valid.calls (k : Nat) (A0 : Option Addr) (c0 : Nat) (l0 : List (S69)) (r : Bool) (w : World) (hr0 : Kd.C k69 w A0 l0.length l0) (hc0 : l0.length ≤ c0) (h : leadtrailref03_Valid.f k l0 = some r) :
 Calls Tryz.prog 67 #[.slice A0 l0.length c0] w fun e w' => e = .returned (.bool r) ∧ Drawn0 w w' := by
 have HR0 := zk hr0; have HC0 := zk hc0; clear hr0 hc0; have H : (leadtrailref03_Valid.l0 k l0 0) = some r := h; clear h; have H' := zk H; clear H; go_enter Tryz.func67, Tryz.ntmps67
 go_wp2
 repeat (go_quiet (fail); try go_wp2)
 go_loopg [3] k (fun kq v3 w' => ∃ (x3_1 : Int), v3 = .int .i64 x3_1 ∧ Aside0 (leadtrailref03_Valid.l0 kq l0 x3_1 = some r) ∧ Aside0 (kq ≤ k) ∧ Drawn0 w w')
 case atStart => exact ⟨(0), zR, H', ⟨Nat.le_refl _⟩, by repeat (first | exact Drawn0.refl _ | apply Drawn0.step)⟩
 case round =>
  clear H'; obtain ⟨x3_1, rfl, HA, HK1, ⟨m1, rfl⟩⟩ := hrel
  cases gk with
  | zero => exact absurd HA.out (by simp [leadtrailref03_Valid.l0])
  | succ k1 =>
   have H := HA.out; clear HA; simp only [leadtrailref03_Valid.l0] at H; by_cases c2 : x3_1 < (l0.length : Int)
   ·rw [if_pos c2] at H; have c2b0 : decide (x3_1 < (l0.length : Int)) = true := decide_eq_true c2; clear c2; by_cases c3 : 0 ≤ x3_1
    ·rw [if_pos c3] at H; have c3b0 : decide (0 ≤ x3_1) = true := decide_eq_true c3; clear c3; by_cases c4 : ((rd_T69 l0 x3_1).f0) < 0
     ·rw [if_pos c4] at H; have c4b0 : decide (((rd_T69 l0 x3_1).f0) < 0) = true := decide_eq_true c4; clear c4; obtain rfl := Option.some.inj H; have p386 : 0 ≤ (x3_1 : Int) := zT; have q386 : x3_1 < (l0.length : Int) := zT; obtain ⟨ad386, e386, hx386_0, hx386_1⟩ := at_T69 HR0.out x3_1 p386 q386; cases e386; replace p386 := eq_true p386; replace q386 := eq_true q386; go_wp2
      repeat (go_quiet (fail); try go_wp2)
      go_ret
      exact ⟨by first | rfl | (simp; done) | (simp [*]; done), by repeat (first | exact Drawn0.refl _ | apply Drawn0.step)⟩
     ·rw [if_neg c4] at H; have c4b0 : decide (((rd_T69 l0 x3_1).f0) < 0) = false := decide_eq_false c4; clear c4; by_cases c5 : ((rd_T69 l0 x3_1).f0) > ((rd_T69 l0 x3_1).f1)
      ·rw [if_pos c5] at H; have c5b0 : decide (((rd_T69 l0 x3_1).f1) < ((rd_T69 l0 x3_1).f0)) = true := decide_eq_true c5; clear c5; obtain rfl := Option.some.inj H; have p386 : 0 ≤ (x3_1 : Int) := zT; have q386 : x3_1 < (l0.length : Int) := zT; obtain ⟨ad386, e386, hx386_0, hx386_1⟩ := at_T69 HR0.out x3_1 p386 q386; cases e386; replace p386 := eq_true p386; replace q386 := eq_true q386; have p387 : 0 ≤ (x3_1 : Int) := zT; have q387 : x3_1 < (l0.length : Int) := zT; obtain ⟨ad387, e387, hx387_0, hx387_1⟩ := at_T69 HR0.out x3_1 p387 q387; obtain rfl : ad386 = ad387 := (by injection e387); replace p387 := eq_true p387; replace q387 := eq_true q387; have p388 : 0 ≤ (x3_1 : Int) := zT; have q388 : x3_1 < (l0.length : Int) := zT; obtain ⟨ad388, e388, hx388_0, hx388_1⟩ := at_T69 HR0.out x3_1 p388 q388; obtain rfl : ad386 = ad388 := (by injection e388); replace p388 := eq_true p388; replace q388 := eq_true q388; go_wp2
       repeat (go_quiet (fail); try go_wp2)
       go_ret
       exact ⟨by first | rfl | (simp; done) | (simp [*]; done), by repeat (first | exact Drawn0.refl _ | apply Drawn0.step)⟩
      ·rw [if_neg c5] at H; have c5b0 : decide (((rd_T69 l0 x3_1).f1) < ((rd_T69 l0 x3_1).f0)) = false := decide_eq_false c5; clear c5; by_cases c6 : ((rd_T69 l0 x3_1).f1) > 255
       ·rw [if_pos c6] at H; have c6b0 : decide (255 < ((rd_T69 l0 x3_1).f1)) = true := decide_eq_true c6; clear c6; obtain rfl := Option.some.inj H; have p386 : 0 ≤ (x3_1 : Int) := zT; have q386 : x3_1 < (l0.length : Int) := zT; obtain ⟨ad386, e386, hx386_0, hx386_1⟩ := at_T69 HR0.out x3_1 p386 q386; cases e386; replace p386 := eq_true p386; replace q386 := eq_true q386; have p387 : 0 ≤ (x3_1 : Int) := zT; have q387 : x3_1 < (l0.length : Int) := zT; obtain ⟨ad387, e387, hx387_0, hx387_1⟩ := at_T69 HR0.out x3_1 p387 q387; obtain rfl : ad386 = ad387 := (by injection e387); replace p387 := eq_true p387; replace q387 := eq_true q387; have p388 : 0 ≤ (x3_1 : Int) := zT; have q388 : x3_1 < (l0.length : Int) := zT; obtain ⟨ad388, e388, hx388_0, hx388_1⟩ := at_T69 HR0.out x3_1 p388 q388; obtain rfl : ad386 = ad388 := (by injection e388); replace p388 := eq_true p388; replace q388 := eq_true q388; have p389 : 0 ≤ (x3_1 : Int) := zT; have q389 : x3_1 < (l0.length : Int) := zT; obtain ⟨ad389, e389, hx389_0, hx389_1⟩ := at_T69 HR0.out x3_1 p389 q389; obtain rfl : ad386 = ad389 := (by injection e389); replace p389 := eq_true p389; replace q389 := eq_true q389; go_wp2
        repeat (go_quiet (fail); try go_wp2)
        go_ret
        exact ⟨by first | rfl | (simp; done) | (simp [*]; done), by repeat (first | exact Drawn0.refl _ | apply Drawn0.step)⟩
       ·rw [if_neg c6] at H; have c6b0 : decide (255 < ((rd_T69 l0 x3_1).f1)) = false := decide_eq_false c6; clear c6; by_cases c7 : x3_1 > 0
        ·rw [if_pos c7] at H; have c7b0 : decide (0 < x3_1) = true := decide_eq_true c7; clear c7; obtain ⟨ji8, hji8⟩ : ∃ j_ : Int, (wrap64 (x3_1 - 1)) = j_ := ⟨_, rfl⟩
         replace H : (if 0 ≤ (ji8) then (if (ji8) < (l0.length : Int) then (if ((rd_T69 l0 x3_1).f0) ≤ (wrap64 (((rd_T69 l0 (ji8)).f1) + 1)) then (some false) else (leadtrailref03_Valid.l0 k1 l0 (wrap64 (x3_1 + 1)))) else (none)) else (none)) = some r := by first | (rw [hji8] at H; exact H) | (simp only [hji8] at H ⊢; exact H)
         have hji8w : (IntKind.i64.wrap (x3_1 - 1)) = ji8 := (i64_w _).trans hji8; by_cases c9 : 0 ≤ (ji8)
         ·rw [if_pos c9] at H; have c9b0 : decide (0 ≤ (ji8)) = true := decide_eq_true c9; clear c9; by_cases c10 : (ji8) < (l0.length : Int)
          ·rw [if_pos c10] at H; have c10b0 : decide ((ji8) < (l0.length : Int)) = true := decide_eq_true c10; clear c10; by_cases c11 : ((rd_T69 l0 x3_1).f0) ≤ (wrap64 (((rd_T69 l0 (ji8)).f1) + 1))
           ·rw [if_pos c11] at H; have c11b0 : decide (((rd_T69 l0 x3_1).f0) ≤ (wrap64 (((rd_T69 l0 (ji8)).f1) + 1))) = true := decide_eq_true c11; clear c11; obtain rfl := Option.some.inj H; have p386 : 0 ≤ (x3_1 : Int) := zT; have q386 : x3_1 < (l0.length : Int) := zT; obtain ⟨ad386, e386, hx386_0, hx386_1⟩ := at_T69 HR0.out x3_1 p386 q386; cases e386; replace p386 := eq_true p386; replace q386 := eq_true q386; have p387 : 0 ≤ (x3_1 : Int) := zT; have q387 : x3_1 < (l0.length : Int) := zT; obtain ⟨ad387, e387, hx387_0, hx387_1⟩ := at_T69 HR0.out x3_1 p387 q387; obtain rfl : ad386 = ad387 := (by injection e387); replace p387 := eq_true p387; replace q387 := eq_true q387; have p388 : 0 ≤ (x3_1 : Int) := zT; have q388 : x3_1 < (l0.length : Int) := zT; obtain ⟨ad388, e388, hx388_0, hx388_1⟩ := at_T69 HR0.out x3_1 p388 q388; obtain rfl : ad386 = ad388 := (by injection e388); replace p388 := eq_true p388; replace q388 := eq_true q388; have p389 : 0 ≤ (x3_1 : Int) := zT; have q389 : x3_1 < (l0.length : Int) := zT; obtain ⟨ad389, e389, hx389_0, hx389_1⟩ := at_T69 HR0.out x3_1 p389 q389; obtain rfl : ad386 = ad389 := (by injection e389); replace p389 := eq_true p389; replace q389 := eq_true q389; have p390 : 0 ≤ (x3_1 : Int) := zT; have q390 : x3_1 < (l0.length : Int) := zT; obtain ⟨ad390, e390, hx390_0, hx390_1⟩ := at_T69 HR0.out x3_1 p390 q390; obtain rfl : ad386 = ad390 := (by injection e390); replace p390 := eq_true p390; replace q390 := eq_true q390; have p391 : 0 ≤ ((ji8) : Int) := zT; have q391 : (ji8) < (l0.length : Int) := zT; obtain ⟨ad391, e391, hx391_0, hx391_1⟩ := at_T69 HR0.out (ji8) p391 q391; obtain rfl : ad386 = ad391 := (by injection e391); replace p391 := eq_true p391; replace q391 := eq_true q391; go_wp2
            repeat (go_quiet (fail); try go_wp2)
            go_ret
            exact ⟨by first | rfl | (simp; done) | (simp only [← hji8] <;> (first | rfl | simp)) | (simp [*]; done), by repeat (first | exact Drawn0.refl _ | apply Drawn0.step)⟩
           ·rw [if_neg c11] at H; have c11b0 : decide (((rd_T69 l0 x3_1).f0) ≤ (wrap64 (((rd_T69 l0 (ji8)).f1) + 1))) = false := decide_eq_false c11; clear c11; have H' := zk H; clear H; have p386 : 0 ≤ (x3_1 : Int) := zT; have q386 : x3_1 < (l0.length : Int) := zT; obtain ⟨ad386, e386, hx386_0, hx386_1⟩ := at_T69 HR0.out x3_1 p386 q386; cases e386; replace p386 := eq_true p386; replace q386 := eq_true q386; have p387 : 0 ≤ (x3_1 : Int) := zT; have q387 : x3_1 < (l0.length : Int) := zT; obtain ⟨ad387, e387, hx387_0, hx387_1⟩ := at_T69 HR0.out x3_1 p387 q387; obtain rfl : ad386 = ad387 := (by injection e387); replace p387 := eq_true p387; replace q387 := eq_true q387; have p388 : 0 ≤ (x3_1 : Int) := zT; have q388 : x3_1 < (l0.length : Int) := zT; obtain ⟨ad388, e388, hx388_0, hx388_1⟩ := at_T69 HR0.out x3_1 p388 q388; obtain rfl : ad386 = ad388 := (by injection e388); replace p388 := eq_true p388; replace q388 := eq_true q388; have p389 : 0 ≤ (x3_1 : Int) := zT; have q389 : x3_1 < (l0.length : Int) := zT; obtain ⟨ad389, e389, hx389_0, hx389_1⟩ := at_T69 HR0.out x3_1 p389 q389; obtain rfl : ad386 = ad389 := (by injection e389); replace p389 := eq_true p389; replace q389 := eq_true q389; have p390 : 0 ≤ (x3_1 : Int) := zT; have q390 : x3_1 < (l0.length : Int) := zT; obtain ⟨ad390, e390, hx390_0, hx390_1⟩ := at_T69 HR0.out x3_1 p390 q390; obtain rfl : ad386 = ad390 := (by injection e390); replace p390 := eq_true p390; replace q390 := eq_true q390; have p391 : 0 ≤ ((ji8) : Int) := zT; have q391 : (ji8) < (l0.length : Int) := zT; obtain ⟨ad391, e391, hx391_0, hx391_1⟩ := at_T69 HR0.out (ji8) p391 q391; obtain rfl : ad386 = ad391 := (by injection e391); replace p391 := eq_true p391; replace q391 := eq_true q391; go_wp2
            repeat (go_quiet (fail); try go_wp2)
            go_roundg k1
            case measure => have := HK1.out; omega
            case rel => exact ⟨(wrap64 (x3_1 + 1)), zR, H', ⟨by have := HK1.out; omega⟩, by repeat (first | exact Drawn0.refl _ | apply Drawn0.step)⟩
          ·rw [if_neg c10] at H; cases H
         ·rw [if_neg c9] at H; cases H
        ·rw [if_neg c7] at H; have c7b0 : decide (0 < x3_1) = false := decide_eq_false c7; clear c7; have H' := zk H; clear H; have p386 : 0 ≤ (x3_1 : Int) := zT; have q386 : x3_1 < (l0.length : Int) := zT; obtain ⟨ad386, e386, hx386_0, hx386_1⟩ := at_T69 HR0.out x3_1 p386 q386; cases e386; replace p386 := eq_true p386; replace q386 := eq_true q386; have p387 : 0 ≤ (x3_1 : Int) := zT; have q387 : x3_1 < (l0.length : Int) := zT; obtain ⟨ad387, e387, hx387_0, hx387_1⟩ := at_T69 HR0.out x3_1 p387 q387; obtain rfl : ad386 = ad387 := (by injection e387); replace p387 := eq_true p387; replace q387 := eq_true q387; have p388 : 0 ≤ (x3_1 : Int) := zT; have q388 : x3_1 < (l0.length : Int) := zT; obtain ⟨ad388, e388, hx388_0, hx388_1⟩ := at_T69 HR0.out x3_1 p388 q388; obtain rfl : ad386 = ad388 := (by injection e388); replace p388 := eq_true p388; replace q388 := eq_true q388; have p389 : 0 ≤ (x3_1 : Int) := zT; have q389 : x3_1 < (l0.length : Int) := zT; obtain ⟨ad389, e389, hx389_0, hx389_1⟩ := at_T69 HR0.out x3_1 p389 q389; obtain rfl : ad386 = ad389 := (by injection e389); replace p389 := eq_true p389; replace q389 := eq_true q389; go_wp2
         repeat (go_quiet (fail); try go_wp2)
         go_roundg k1
         case measure => have := HK1.out; omega
         case rel => exact ⟨(wrap64 (x3_1 + 1)), zR, H', ⟨by have := HK1.out; omega⟩, by repeat (first | exact Drawn0.refl _ | apply Drawn0.step)⟩
    ·rw [if_neg c3] at H; cases H
   ·rw [if_neg c2] at H; have c2b0 : decide (x3_1 < (l0.length : Int)) = false := decide_eq_false c2; clear c2; obtain rfl := Option.some.inj H; go_wp2
    repeat (go_quiet (fail); try go_wp2)
    go_ret
    exact ⟨by first | rfl | (simp; done) | (simp [*]; done), by repeat (first | exact Drawn0.refl _ | apply Drawn0.step)⟩
def bitsV (p : Nat → Bool) : Array Value := ((List.range 256).map fun i => Value.bool (p i)).toArray
theorem bitsV_size (p : Nat → Bool) : (bitsV p).size = 256 := by simp [bitsV]
theorem bitsV_get (p : Nat → Bool) (i : Nat) (h : i < 256) : (bitsV p)[i]? = some (.bool (p i)) := by simp [bitsV, h]
theorem bitsV_congr {p q : Nat → Bool} (h : ∀ i, i < 256 → p i = q i) : bitsV p = bitsV q := by
 unfold bitsV; congr 1; exact List.map_congr_left fun i hi => by rw [h i (List.mem_range.1 hi)]
theorem bitsV_set (p : Nat → Bool) (i : Nat) (b : Bool) : (bitsV p).setIfInBounds i (.bool b) = bitsV (fun j => if j = i then b else p j) := by
 apply Array.ext
 ·simp [bitsV]
 ·intro j h1 h2; have hj : j < 256 := by simpa [bitsV] using h2
  rw [Array.getElem_setIfInBounds (by rw [bitsV_size]; exact hj)]; by_cases h : i = j
  ·subst h; simp [bitsV]
  ·rw [if_neg h]; simp [bitsV, Ne.symm h]
theorem bits_zero : Tryz.zeroCells105 = bitsV fun _ => false := by kernel_rfl
theorem blk_new2 (w : World) (o o' : Obj) : ((w.alloc o).alloc o').heap[w.heap.size + 1]? = some o' := by
 have h := blk_new (w.alloc o) o'; rwa [show (w.alloc o).heap.size = w.heap.size + 1 from by simp only [World.alloc, Array.size_push]] at h
theorem wp_load_blk {P : Program} {op : Oper} {a : Act} {w : World} {K : Act → World → Prop} {Q : Exit → Act → World → Prop} (ty : TypeId) (x : Operand) (ho : op.op = .load ty x)
 (g : Nat) (hx : a.eval x = .pointer (some ⟨g, 0, none⟩)) (c : Array Value) (hg : w.heap[g]? = some (.cells c ty (0, 0))) (n : Nat) (e : TypeId) (hu : P.underlying ty = some (.array n e)) (hi : (P.info? ty).map (·.size) = some c.size)
 (h : K (a.put op.dst (.agg c)) w) : op.wp P a w K Q := by
 unfold Oper.wp execOp; simp only [ho, hx, Instr.loadAt, Instr.sureAddr, Sem.run_bind, Sem.run_pure, Result.andThen_ok, run_loadVar_row _ _ ty ty c (0, 0) _ hg hu rfl hi]; exact h
theorem run_store_blk {P : Program} (w : World) (g : Nat) (t : TypeId) (c c' : Array Value) (hg : w.heap[g]? = some (.cells c t (0, 0))) (hi : (P.info? t).map (·.size) = some c'.size) (hs : c.size = c'.size) (h1 : c'.all (·.oneCell') = true) :
 Sem.run P (storeCells ⟨g, 0, none⟩ c'.toList 0) w = .ok () (w.setRow g c') := by
 have h := run_storeVar_row (P := P) w g t t c c' hg hi hs h1; cases hq : P.info? t with
 | none => simp [hq] at hi
 | some i =>
  have hs : i.size = c'.size := by simp [hq] at hi; omega
  simpa [storeVar, sizeOf, typeInfo, hq, hs, Value.cells] using h
theorem blk_row (w : World) (g : Nat) (c c' : Array Value) {t : TypeId} (hg : w.heap[g]? = some (.cells c t (0, 0))) : (w.setRow g c').heap[g]? = some (.cells c' t (0, 0)) := setRow_heap w g c c' t (0, 0) hg
theorem bits_one (p : Nat → Bool) : (bitsV p).all (·.oneCell') = true := by
 rw [Array.all_eq_true_iff_forall_mem]; intro v hv; simp [bitsV] at hv; obtain ⟨i, _, rfl⟩ := hv; rfl
theorem hu105 : Tryz.prog.underlying 105 = some (.array 256 4) := by kernel_rfl
theorem hi105 (p : Nat → Bool) : (Tryz.prog.info? 105).map (·.size) = some (bitsV p).size := by rw [bitsV_size]; kernel_rfl
theorem w64' {x : Int} (h0 : -9223372036854775808 ≤ x) (h1 : x ≤ 9223372036854775807) : wrap64 x = x := by unfold wrap64; omega
def pieceHas (r : S69) (i : Nat) : Bool := decide (r.f0 ≤ i) && decide ((i : Int) ≤ r.f1)
def hasAny (l : List S69) (i : Nat) : Bool := l.any fun r => pieceHas r i
def okPiece (r : S69) : Bool := decide (0 ≤ r.f0) && decide (r.f0 ≤ r.f1) && decide (r.f1 ≤ 255)
theorem R3Members.calls (k : Nat) (A0 : Option Addr) (c0 : Nat) (l0 : List S69) (b : Bool) (w : World) (hr0 : Kd.C k69 w A0 l0.length l0) (hc0 : l0.length ≤ c0) (h : leadtrailref03_Valid.f k l0 = some b) (hok : b = true → ∀ r ∈ l0, okPiece r = true) (hsm : l0.length ≤ 8796093022207) :
 Calls Tryz.prog 68 #[.slice A0 l0.length c0] w fun e w' => e = .returned (.agg (bitsV fun i => b && hasAny l0 i)) ∧ Below w.heap.size w w' := by
 have HR0 := zk hr0; have HC0 := zk hc0; clear hr0 hc0; have HB := zk (Below.refl w.heap.size w); have HRw := HR0; cases b with
 | false =>
  go_enter Tryz.func68, Tryz.ntmps68
  go_wp2_with (go_at_call 67; (with_reducible refine (leadtrailref03_Valid.calls k _ _ l0 _ _ ?side1 ?side2 h).mono ?_); (case side1 => exact zc HR0.out); (case side2 => exact HC0.out); rintro e w1 ⟨rfl, hb⟩; have B2 := zk (show w1.heap[w.heap.size]? = some (.cells (bitsV fun _ => false) 105 (0, 0)) by obtain ⟨n, rfl⟩ := hb.out; rw [← bits_zero]; exact blk_drewN (blk_alloc (blk_new w _) _) _); have B3 := zk (show w1.heap[w.heap.size + 1]? = some (.cells (bitsV fun _ => false) 105 (0, 0)) by obtain ⟨n, rfl⟩ := hb.out; rw [← bits_zero]; exact blk_drewN (blk_new2 w _ _) _); have n1_ := zk (below_step (below_alloc (below_alloc HB.out _) _) hb.below); have n2_ := zk (Kd.C_below (Kd.C_alloc (Kd.C_alloc HR0.out _) _) hb.below); clear HB HR0 hb; have HB := n1_; have HR0 := n2_; clear n1_ n2_)
  refine wp_load_blk 105 (.tmp 3) rfl (w.heap.size + 1) rfl _ B3.out 256 4 hu105 (hi105 _) ?_; go_wp2
  rw [run_store_blk w1 w.heap.size 105 _ (bitsV fun _ => false) B2.out (hi105 _) (by simp [bitsV_size]) (bits_one _)]; have hB := blk_row w1 w.heap.size _ (bitsV fun _ => false) B2.out; go_wp2
  refine bodyPost_ret (results_cell_row (by exact Tryz.results68) _ _ w.heap.size 105 (bitsV fun _ => false) (0, 0) (.array 256 4) ?hp hB hu105 rfl (hi105 _)) rfl ?_
  case hp => rfl
  exact ⟨by simp only [Bool.false_and], below_setRow HB.out (Nat.le_refl _) _⟩
 | true =>
  go_enter Tryz.func68, Tryz.ntmps68
  go_wp2_with (go_at_call 67; (with_reducible refine (leadtrailref03_Valid.calls k _ _ l0 _ _ ?side1 ?side2 h).mono ?_); (case side1 => exact zc HR0.out); (case side2 => exact HC0.out); rintro e w1 ⟨rfl, hb⟩; have B2 := zk (show w1.heap[w.heap.size]? = some (.cells (bitsV fun _ => false) 105 (0, 0)) by obtain ⟨n, rfl⟩ := hb.out; rw [← bits_zero]; exact blk_drewN (blk_alloc (blk_new w _) _) _); have B3 := zk (show w1.heap[w.heap.size + 1]? = some (.cells (bitsV fun _ => false) 105 (0, 0)) by obtain ⟨n, rfl⟩ := hb.out; rw [← bits_zero]; exact blk_drewN (blk_new2 w _ _) _); have n1_ := zk (below_step (below_alloc (below_alloc HB.out _) _) hb.below); clear HB hb; have HB := n1_; clear n1_)
  have hgt := hok trivial; go_loopg [4] (l0.length + 1) (fun kq v4 w' => ∃ n : Nat, v4 = .int .i64 (n : Int) ∧ Aside0 (n + kq = l0.length + 1 ∧ n ≤ l0.length) ∧ Aside0 (w'.heap[w.heap.size]? = some (.cells (bitsV fun _ => false) 105 (0, 0))) ∧ Aside0 (w'.heap[w.heap.size + 1]? = some (.cells (bitsV fun i => hasAny (l0.take n) i) 105 (0, 0))) ∧ Aside0 (Below w.heap.size w w'))
  case atStart => exact ⟨0, rfl, ⟨by omega, by omega⟩, B2, ⟨by simpa [hasAny] using B3.out⟩, HB⟩
  case round =>
   obtain ⟨n, rfl, HN, C2, C3, HB'⟩ := hrel; have hN := HN.out
   cases gk with
   | zero => exact absurd hN (by omega)
   | succ ko =>
   by_cases c : n < l0.length
   ·have p : 0 ≤ (n : Int) := by omega
    have q : (n : Int) < (l0.length : Int) := by omega
    obtain ⟨ad, e, hx0, hx1⟩ := at_T69 (Kd.C_below HRw.out HB'.out) n p q; cases e; simp only [Int.toNat_natCast] at hx0 hx1; have cb : decide ((n : Int) < (l0.length : Int)) = true := decide_eq_true q; have hnr := zk (show l0[n]? = some (rd_T69 l0 n) by simp [rd_T69, List.getD, c]); have hr := zk (show okPiece (rd_T69 l0 n) = true from hgt _ (List.mem_of_getElem? hnr.out)); have c0_ := zk c; have cb2 : decide (n < l0.length) = true := decide_eq_true c; clear c hN; replace p := eq_true p; replace q := eq_true q; go_wp2
    clear hx0 hx1; generalize hrr : rd_T69 l0 n = r at hr hnr ⊢; have hb : 0 ≤ r.f0 ∧ r.f0 ≤ r.f1 ∧ r.f1 ≤ 255 := by simpa [okPiece, and_assoc] using hr.out
    have e0 : ((r.f0.toNat : Nat) : Int) = r.f0 := Int.toNat_of_nonneg hb.1; have hm0 : r.f0.toNat ≤ 255 := by omega
    go_loopg [5] (512 - r.f0.toNat) (fun kq v5 w' => ∃ m : Nat, v5 = .int .i64 (m : Int) ∧ Aside0 (m + kq = 512) ∧ Aside0 (r.f0 ≤ m ∧ (m : Int) ≤ r.f1 + 1) ∧ Aside0 (w'.heap[w.heap.size]? = some (.cells (bitsV fun _ => false) 105 (0, 0))) ∧ Aside0 (w'.heap[w.heap.size + 1]? = some (.cells (bitsV fun i => hasAny (l0.take n) i || (decide (r.f0 ≤ i) && decide (i < m))) 105 (0, 0))) ∧ Aside0 (Below w.heap.size w w'))
    case atStart => exact ⟨r.f0.toNat, by rw [e0], ⟨by omega⟩, ⟨by omega⟩, C2, ⟨by rw [C3.out, bitsV_congr (fun i _ => (by
     have : (decide (r.f0 ≤ (i : Int)) && decide (i < r.f0.toNat)) = false := by simp <;> omega
     rw [this, Bool.or_false] : hasAny (l0.take n) i = (hasAny (l0.take n) i || (decide (r.f0 ≤ (i : Int)) && decide (i < r.f0.toNat)))))]⟩, HB'⟩
    case round =>
     obtain ⟨m, rfl, HT, HL, D2, D3, HB2⟩ := hrel; have hL := HL.out; have hT := HT.out; obtain ⟨ad2, e2, hx0, hx1⟩ := at_T69 (Kd.C_below HRw.out HB2.out) n (by omega) (by have := c0_.out; omega); obtain rfl : ad = ad2 := by injection e2
     simp only [Int.toNat_natCast, hrr] at hx0 hx1
     cases gk with
     | zero => exact absurd hT (by omega)
     | succ k1 =>
      by_cases d : (m : Int) ≤ r.f1
      ·have db : decide ((m : Int) ≤ r.f1) = true := decide_eq_true d; have p2 : (0 ≤ (m : Int)) = True := eq_true (by omega); have q2 : ((m : Int) < 256) = True := eq_true (by omega); have hc := blk_cell D3.out m; rw [bitsV_get _ _ (by omega)] at hc; have hf := blk_frozen D3.out m; have d_ := zk d; clear d hL hT; go_wp2
       have hL := HL.out; have hT := HT.out; have d := d_.out; go_roundg k1
       case measure => omega
       case rel => exact ⟨m + 1, by rw [w64' (by omega) (by omega)]; simp, ⟨by omega⟩, ⟨by omega⟩, ⟨blk_far D2.out (by simp) _⟩, ⟨blk_put D3.out m _ ((bitsV_set _ _ _).trans (bitsV_congr fun i _ => (by
        by_cases hi : i = m
        ·subst hi; simp; right; omega
        ·rw [if_neg hi]; have : decide (i < m + 1) = decide (i < m) := by rw [decide_eq_decide]; omega
         rw [this])))⟩, ⟨below_set HB2.out (Nat.le_succ _)⟩⟩
      ·have db : decide ((m : Int) ≤ r.f1) = false := decide_eq_false d; have d_ := zk d; clear d hL hT; go_wp2
       have hL := HL.out; have hT := HT.out; have d := d_.out; have c := c0_.out; have hN := HN.out; go_roundg ko
       case measure => omega
       case rel => exact ⟨n + 1, by rw [w64' (by omega) (by omega)]; simp, ⟨by omega, by omega⟩, D2, ⟨by rw [D3.out, bitsV_congr (fun i _ => (by
        have e1 : l0.take (n + 1) = l0.take n ++ [r] := by rw [List.take_add_one, hnr.out]; rfl
        have e2 : decide (i < m) = decide ((i : Int) ≤ r.f1) := by rw [decide_eq_decide]; omega
        rw [e1, e2]; simp [hasAny, pieceHas] : (hasAny (l0.take n) i || (decide (r.f0 ≤ (i : Int)) && decide (i < m))) = hasAny (l0.take (n + 1)) i))]⟩, HB2⟩
   ·have hn := zk (show n = l0.length by omega); have cb : decide ((n : Int) < (l0.length : Int)) = false := decide_eq_false (by omega); have cb2 : decide (n < l0.length) = false := decide_eq_false c; clear c hN; go_wp2
    refine wp_load_blk 105 (.tmp 3) rfl (w.heap.size + 1) rfl _ C3.out 256 4 hu105 (hi105 _) ?_; go_wp2
    rw [run_store_blk _ w.heap.size 105 _ (bitsV fun i => hasAny (l0.take n) i) C2.out (hi105 _) (by simp [bitsV_size]) (bits_one _)]; have hB := blk_row _ w.heap.size _ (bitsV fun i => hasAny (l0.take n) i) C2.out; go_wp2
    refine bodyPost_ret (results_cell_row (by exact Tryz.results68) _ _ w.heap.size 105 (bitsV fun i => hasAny (l0.take n) i) (0, 0) (.array 256 4) ?hp hB hu105 rfl (hi105 _)) rfl ?_
    case hp => rfl
    exact ⟨by simp only [Bool.true_and]; rw [hn.out, List.take_length], below_setRow HB'.out (Nat.le_refl _) _⟩
def membersB (b : Bool) (l : List S69) (i : Nat) : Bool := b && hasAny l i
def leadtrailref03_memb (k : Nat) (l0 : List S69) : Option (Nat → Bool) := (leadtrailref03_Valid.f k l0).bind fun b => if l0.length ≤ 8796093022207 then (if b = true then (if l0.all okPiece = true then some (membersB true l0) else none) else some (membersB false l0)) else none
theorem memb_some {k : Nat} {l0 : List S69} {p : Nat → Bool} (h : leadtrailref03_memb k l0 = some p) : ∃ b, leadtrailref03_Valid.f k l0 = some b ∧ p = membersB b l0 ∧ (b = true → ∀ r ∈ l0, okPiece r = true) ∧ l0.length ≤ 8796093022207 := by
 obtain ⟨b, h1, h2⟩ := Option.bind_eq_some_iff.mp h; by_cases c : l0.length ≤ 8796093022207
 ·rw [if_pos c] at h2; cases b with
  | true =>
   simp only [if_true] at h2; by_cases d : l0.all okPiece = true
   ·rw [if_pos d] at h2; exact ⟨true, h1, (Option.some.inj h2).symm, fun _ => List.all_eq_true.1 d, c⟩
   ·rw [if_neg d] at h2; cases h2
  | false =>
   simp only [Bool.false_eq_true, if_false] at h2; exact ⟨false, h1, (Option.some.inj h2).symm, fun h => (by cases h), c⟩
 ·rw [if_neg c] at h2; cases h2
def cntB (p : Nat → Bool) : Nat → Nat
 | 0 => 0
 | n + 1 => cntB p n + if p n = true then 1 else 0
theorem cntB_le (p : Nat → Bool) : ∀ n, cntB p n ≤ n
 | 0 => Nat.le_refl _
 | n + 1 => by have := cntB_le p n; simp only [cntB]; split <;> omega
theorem run_store_new (w : World) (p : Nat → Bool) : Sem.run Tryz.prog (storeCells ⟨w.heap.size, 0, none⟩ (bitsV p).toList 0) (w.alloc (.cells Tryz.zeroCells105 105)) = .ok () (w.alloc (.cells (bitsV p) 105)) :=
 run_storeCells_new w 105 Tryz.zeroCells105 (bitsV p) (hi105 p) (by rw [bits_zero, bitsV_size, bitsV_size]) (bits_one p)
end Go.Proofs.YtobhclnenffkgaaGreat.B
