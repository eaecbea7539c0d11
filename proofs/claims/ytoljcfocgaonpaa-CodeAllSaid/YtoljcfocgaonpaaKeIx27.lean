/- Words and walks of this claim, of the text Ix27. -/
import Derived.Test.YtoljcfocgaonpaaKeQW0
import Derived.Test.YtoljcfocgaonpaaKeIx0
import Derived.Test.YtoljcfocgaonpaaKeIx17
namespace Go.Proofs.Ytoljcfocgaonpaa.I
open Go.RowKit Go.Proofs.YtoljcfocgaonpaaW.PrintWords Go.Proofs.YtoljcfocgaonpaaW.PrintLast Go.Proofs.YtoljcfocgaonpaaW.PrintMore
attribute [local go_sem] max2_int min2_int max_two min_two max_three min_three max_four min_four
set_option linter.unusedVariables false
set_option linter.unusedSimpArgs false
def leadtrailref08_Copy.l0 : Nat → Int → List (S47) → List (S47) → Option ((List (S47)))
 | 0, _, _, _ => none
 | k + 1, x4, x697000, x699000 => if x4 < (x697000.length : Int) then (if 0 ≤ x4 then ((leadtrailref08_CopyShape.f k ((rd_T47 x697000 x4).f0) ((rd_T47 x697000 x4).f1)).bind fun bt700 => (if x699000.length < 4398046511104 then (leadtrailref08_Copy.l0 k (wrap64 (x4 + 1)) x697000 (x699000 ++ [(⟨bt700.1, bt700.2⟩ : S47)])) else (none))) else (none)) else (some x699000)
def leadtrailref08_Copy.f (k : Nat) (l0_0 : List (S47)) : Option ((List (S47))) := leadtrailref08_Copy.l0 k 0 l0_0 ([] : List (S47))
def leadtrailref08_Copy.T5 : Bool × List (List Nat × List Nat) := (true, [([], []), ([0], [0]), ([], []), ([2], [2]), ([], []), ([3, 4], [3, 4]), ([5], [5]), ([6], [6]), ([7], [7]), ([1, 8, 7], [1, 8]), ([0, 1, 2, 3, 4, 5, 6, 7, 8, 9], []), ([10, 9, 9, 0, 1, 2, 3, 4, 5, 6, 7, 8, 9], [9, 10])])
def leadtrailref08_Copy.B5 : List Nat := [0, 1, 0, 4, 0, 28, 60, 124, 252, 511, 1023, 2047]
theorem leadtrailref08_Copy.tab5 : rtab .any (opsOf Try.f47 5) = leadtrailref08_Copy.T5 := by kernel_rfl
theorem leadtrailref08_Copy.bits5 : waitsOk leadtrailref08_Copy.T5.2 leadtrailref08_Copy.B5 = true := by kernel_rfl
set_option maxHeartbeats 8000000 in
set_option maxRecDepth 100000 in
theorem leadtrailref08_Copy.calls (k : Nat) (A0_0 : Option Addr) (c0_0 : Nat) (l0_0 : List (S47)) (r : List (S47)) (w : World) (hr0_0 : Kd.C k47 w A0_0 l0_0.length l0_0) (hc0_0 : l0_0.length ≤ c0_0) (h : leadtrailref08_Copy.f k l0_0 = some r) :
 Calls Try.prog 47 #[.agg #[.slice A0_0 l0_0.length c0_0]] w fun e w' => ∃ v0_ : Value, e = .returned (.agg #[v0_]) ∧ Kd.R k47 47 w' w.heap.size (fun _ => True) v0_ r ∧ Below w.heap.size w w' := by
 have hu69 := Try.underlying69; have hu47 := Try.underlying47; have HR0_0 := zk hr0_0; have HC0_0 := zk hc0_0; clear hr0_0 hc0_0; have HB := zk (Below.refl w.heap.size w); have H : (leadtrailref08_Copy.l0 k 0 l0_0 ([] : List (S47))) = some r := h; clear h; have H' := zk H; clear H; go_enter Try.func47, Try.ntmps47
 go_wp2_with (first | ((with_reducible refine gate_dst (N := 1) rfl ?_); refine box_event ?hg (N := 1) ?hd (cs := #[.slice A0_0 l0_0.length c0_0]) (t := 69) ?hr ?_; (case hd => rfl); (case hg => rfl); (case hr => first | (go_simp; done) | (go_simp; rfl)); intro gb696 hg w2 hbox hb; have BK696 := zk (hbox); have GE696 := zk ((zg hg HB.out : w.heap.size ≤ gb696)); replace HB := zk (below_step (zU HB.out) hb);  clear hb hbox hg) | ((with_reducible refine gate_dst (N := 2) rfl ?_); refine box_event ?hg (N := 2) ?hd (cs := #[.slice none 0 0]) (t := 69) ?hr ?_; (case hd => rfl); (case hg => rfl); (case hr => first | (go_simp; done) | (go_simp; rfl)); intro gb697 hg w3 hbox hb; have BK697 := zk (hbox); have GE697 := zk ((zg hg HB.out : w.heap.size ≤ gb697)); replace HB := zk (below_step (zU HB.out) hb); have NB696_697 := zk ((zlt hg BK696.out : gb696 ≠ gb697)); have NB697_696 := zk ((zgt hg BK696.out : gb697 ≠ gb696)); replace BK696 := zk (zbb BK696.out hb);  clear hb hbox hg) | ((with_reducible refine gate_dst (N := 3) rfl ?_); refine box_event ?hg (N := 3) ?hd (cs := #[.slice none 0 0]) (t := 69) ?hr ?_; (case hd => rfl); (case hg => rfl); (case hr => first | (go_simp; done) | (go_simp; rfl)); intro gb698 hg w4 hbox hb; have BK698 := zk (hbox); have GE698 := zk ((zg hg HB.out : w.heap.size ≤ gb698)); replace HB := zk (below_step (zU HB.out) hb); have NB696_698 := zk ((zlt hg BK696.out : gb696 ≠ gb698)); have NB698_696 := zk ((zgt hg BK696.out : gb698 ≠ gb696)); replace BK696 := zk (zbb BK696.out hb); have NB697_698 := zk ((zlt hg BK697.out : gb697 ≠ gb698)); have NB698_697 := zk ((zgt hg BK697.out : gb698 ≠ gb697)); replace BK697 := zk (zbb BK697.out hb);  clear hb hbox hg; have hnb5 := NB698_696.out; have hnc5 := NB696_698.out; have hnb6 := NB698_697.out; have hnc6 := NB697_698.out; have hcz7_0 : w4.cell? ⟨gb698, 0, none⟩ = some (.slice none 0 0) := zh BK698.out 0; have hfz7_0 := blk_frozen BK698.out 0))
 go_loopg [4] k (fun kq v4 w' => ∃ (x4_1 : Int) (x699000_1 : List (S47)) (u699000 : Value), v4 = .int .i64 x4_1 ∧ Aside0 (leadtrailref08_Copy.l0 kq x4_1 l0_0 x699000_1 = some r) ∧ Aside0 (kq ≤ k) ∧ Aside0 (Kd.R k47 47 w' w.heap.size (fun _ => True) u699000 x699000_1) ∧ Aside0 (w'.heap[gb696]? = some (.cells #[(.slice A0_0 l0_0.length c0_0)] 69 (0, 0))) ∧ Aside0 (w'.heap[gb697]? = some (.cells #[(.slice none 0 0)] 69 (0, 0))) ∧ Aside0 (w'.heap[gb698]? = some (.cells #[u699000] 69 (0, 0))) ∧ Aside0 (Below w.heap.size w w'))
 case atStart => exact ⟨(0), (([] : List (S47))), (.slice none 0 0), zR, H', ⟨Nat.le_refl _⟩, ⟨by first | exact Kd.R_nil _ _ _ _ _ | exact Kd.N_nil _ _ _ _ _ | exact Kd.V_nil _ _ _ _ _ | exact Kd.Q_nil _ _ _ _ _ | exact Kd.S_nil _ _ _ _ _⟩, ⟨zb BK696.out⟩, ⟨zb BK697.out⟩, ⟨by (with_reducible repeat (first | refine blk_drewN ?_ _ | refine blk_drew ?_ | refine blk_alloc ?_ _)); refine blk_put (cs := #[.slice none 0 0]) ?_ 0 _ rfl; exact zb BK698.out⟩, ⟨zU HB.out⟩⟩
 case round =>
  clear H'; (try clear p2); (try clear c4); (try clear c5); (try clear c6); (try clear hcz7_0); (try clear hfz7_0); obtain ⟨x4_1, x699000_1, u699000, rfl, HA, HK1, HO_699000, BK696, BK697, BK698, HB⟩ := hrel
  cases gk with
  | zero => exact absurd HA.out (by simp [leadtrailref08_Copy.l0])
  | succ k1 =>
   have H := HA.out; clear HA; simp only [leadtrailref08_Copy.l0] at H; by_cases c8 : x4_1 < (l0_0.length : Int)
   ·rw [if_pos c8] at H; have c8b0 : decide (x4_1 < (l0_0.length : Int)) = true := decide_eq_true c8; clear c8; by_cases c9 : 0 ≤ x4_1
    ·rw [if_pos c9] at H; have c9b0 : decide (0 ≤ x4_1) = true := decide_eq_true c9; clear c9; replace H := Option.bind_eq_some_iff.mp H; obtain ⟨⟨t700, t703⟩, A100, H⟩ := H; replace H : (if x699000_1.length < 4398046511104 then (leadtrailref08_Copy.l0 k1 (wrap64 (x4_1 + 1)) l0_0 (x699000_1 ++ [(⟨t700, t703⟩ : S47)])) else (none)) = some r := H; have A10 := zk A100; clear A100; by_cases c11 : x699000_1.length < 4398046511104
     ·rw [if_pos c11] at H; have LMc11 := zk c11; clear c11; obtain ⟨y704, hy704⟩ : ∃ y_ : List (S47), y_ = (x699000_1 ++ [(⟨t700, t703⟩ : S47)]) := ⟨_, rfl⟩
      replace H : (leadtrailref08_Copy.l0 k1 (wrap64 (x4_1 + 1)) l0_0 y704) = some r := by first | (rw [hy704]; with_reducible exact H) | (have H2_ := (Option.bind_some _ _).symm.trans H; rw [hy704]; with_reducible exact H2_) | (have H2_ := (Option.bind_some _ _).symm.trans H; with_reducible exact H2_) | with_reducible exact H | (rw [hy704]; exact H) | exact H
      have Ny704 := zk hy704; clear hy704; have H' := zk H; clear H; have hnb12 := NB696_697.out; have hnc12 := NB697_696.out; have hnb13 := NB696_698.out; have hnc13 := NB698_696.out; have hcz14_0 : wr.cell? ⟨gb696, 0, none⟩ = some (.slice A0_0 l0_0.length c0_0) := zh BK696.out 0; have hfz14_0 := blk_frozen BK696.out 0; try go_wp2
      have n0_ := zk (Kd.R_drew HO_699000.out); have n1_ := zk (blk_drew BK696.out); have n2_ := zk (blk_drew BK697.out); have n3_ := zk (blk_drew BK698.out); have n4_ := zk (below_drew1 HB.out); clear HO_699000; clear BK696; clear BK697; clear BK698; clear HB; have HO_699000 := n0_; have BK696 := n1_; have BK697 := n2_; have BK698 := n3_; have HB := n4_; clear n0_ n1_ n2_ n3_ n4_; have p699 : 0 ≤ (x4_1 : Int) := zT; have q699 : x4_1 < (l0_0.length : Int) := zT; obtain ⟨ad699, A699_0, c699_0, e699, hx699_0, hx699_1, hl699_0, hi699_0⟩ := at_T47 HR0_0.out x4_1 p699 q699; have hw699_1 := hx699_1; have hw699_0 := hx699_0; cases e699; replace hx699_0 := zcl HB.out hx699_0; replace hx699_1 := zcl HB.out hx699_1; have HR699_0 := zk hi699_0; have HC699_0 := zk hl699_0; clear hi699_0 hl699_0; replace p699 := eq_true p699; replace q699 := eq_true q699; refine start_ (n := 12) (S := fun w' => w'.cell? ⟨gb698, 0, none⟩ = some (u699000) ∧ w'.cell? ⟨gb696, 0, none⟩ = some (.slice (some ad699) l0_0.length c0_0) ∧ w'.cell? (ad699.add ((x4_1).toNat * 2)) = some (.slice A699_0 ((rd_T47 l0_0 x4_1).f0).length c699_0) ∧ w'.cell? ⟨(ad699.add ((x4_1).toNat * 2)).block, (ad699.add ((x4_1).toNat * 2)).off + 1, none⟩ = some (.int .i64 ((rd_T47 l0_0 x4_1).f1))) (ds := [11]) #[false, false, false, false, false, false, false, false, false, false, false, false] zz rfl rfl ⟨(blk_cell BK698.out 0).trans rfl, (blk_cell BK696.out 0).trans rfl, (zcl HB.out hw699_0), (zcl HB.out hw699_1)⟩ (fun hHeld => ?_); refine with_tabW leadtrailref08_Copy.tab5 leadtrailref08_Copy.bits5 (fun HT_ HW_ => ?_); generalize wr.drew = w15 at HO_699000 BK696 BK697 BK698 HB HR699_0 hx699_0 hx699_1 hHeld ⊢; refine zp 0 (some 13) (v := ?_) (a' := ?_) (bz 12 1) rfl rfl HT_.out zz zQ ?_ ?_ ?_; rotate_left
      ·intro w'; go_simp; with_reducible rfl
      rotate_left
      ·simp only [Act.put, zv, i64_w, i32_w]; rfl
      refine zp 2 (some 15) (v := ?_) (a' := ?_) (bz 12 5) rfl rfl HT_.out zz zQ ?_ ?_ ?_; rotate_left
      ·intro w'; go_simp; with_reducible rfl
      rotate_left
      ·simp only [Act.put, zv, i64_w, i32_w]; rfl
      refine zp 4 (some 17) (v := ?_) (a' := ?_) (bz 12 21) rfl rfl HT_.out zz zQ ?_ ?_ ?_; rotate_left
      ·intro w'; go_simp; with_reducible rfl
      rotate_left
      ·simp only [Act.put, zv, i64_w, i32_w]; rfl
      refine take_ (i := 1) (N := some 14) (v := ?_) (a' := ?_) (bz 12 23) rfl rfl (take_ofW HT_.out HW_.out zz) zQ (Or.inl ⟨by rfl, ?_⟩) hHeld ?_ ?_; rotate_left
      ·rintro w' ⟨s0, s1, s2, s3⟩; go_simp; with_reducible rfl
      rotate_left
      ·simp only [Act.put, zv, i64_w, i32_w]; rfl
      refine take_ (i := 3) (N := some 16) (v := ?_) (a' := ?_) (bz 12 31) rfl rfl (take_ofW HT_.out HW_.out zz) zQ (Or.inl ⟨by rfl, ?_⟩) hHeld ?_ ?_; rotate_left
      ·rintro w' ⟨s0, s1, s2, s3⟩; go_simp; with_reducible rfl
      rotate_left
      ·simp only [Act.put, zv, i64_w, i32_w]; rfl
      refine zp 5 (some 18) (v := ?_) (a' := ?_) (bz 12 63) rfl rfl HT_.out zz zQ ?_ ?_ ?_; rotate_left
      ·intro w'; go_simp; with_reducible rfl
      rotate_left
      ·simp only [Act.put, zv, i64_w, i32_w]; rfl
      refine take_ (i := 6) (N := some 19) (v := ?_) (a' := ?_) (bz 12 127) rfl rfl (take_ofW HT_.out HW_.out zz) zQ (Or.inl ⟨by rfl, ?_⟩) hHeld ?_ ?_; rotate_left
      ·rintro w' ⟨s0, s1, s2, s3⟩; go_simp; with_reducible rfl
      rotate_left
      ·simp only [Act.put, zv, i64_w, i32_w]; rfl
      refine one_ (i := 7) (N := some 20) (bz 12 255) rfl rfl (one_of HT_.out zz) (by decide) (fun K hK => ?_); refine goes_ Try.func31 zz rfl #[.agg #[.slice A699_0 ((rd_T47 l0_0 x4_1).f0).length c699_0, .int .i64 ((rd_T47 l0_0 x4_1).f1)]] (by rfl) rfl rfl zM ?_; with_reducible refine (leadtrailref08_CopyShape.calls k1 _ _ ((rd_T47 l0_0 x4_1).f0) ((rd_T47 l0_0 x4_1).f1) t700 t703 _ ?side1 ?side2 A10.out).mono ?_; (case side1 => exact zc (Kd.C_below HR699_0.out HB.out))
      (case side2 => exact HC699_0.out)
      rintro e w16 ⟨v701, rfl, ho0, hb⟩; refine ⟨_, rfl, ?_⟩; have n0_ := zk (Kd.R_elder' (zr HO_699000.out) (Kd.S_base ho0) hb); have n1_ := zk (Kd.S_lower ho0 (below_size (zU HB.out))); have n2_ := zk (zbb BK696.out hb); have n3_ := zk (zbb BK697.out hb); have n4_ := zk (zbb BK698.out hb); have n5_ := zk (below_step (zU HB.out) hb); clear HO_699000; clear BK696; clear BK697; clear BK698; clear HB; have HO_699000 := n0_; have HO702 := n1_; have BK696 := n2_; have BK697 := n3_; have BK698 := n4_; have HB := n5_; clear n0_ n1_ n2_ n3_ n4_ n5_; (try clear hb); (try clear hb2); (try clear hk); (try clear hi); (try clear ho0); obtain ⟨Ao18, co18, eo18⟩ := Kd.S_slice HO702.out
      (first | subst eo18 | (injection eo18 with f1_ f2_ f3_; have f4_ := f1_.symm; have f5_ := f3_.symm; clear f1_ f2_ f3_; subst f4_; subst f5_))
      refine hK.out _ _ ⟨(blk_cell BK698.out 0).trans rfl, (blk_cell BK696.out 0).trans rfl, (zcl HB.out hw699_0), (zcl HB.out hw699_1)⟩ (fun hHeld => ?_); clear hK K; refine norm_ (a' := ?_) ?_ ?_; rotate_left
      ·show Act.put _ (some 20) _ = _; simp only [Act.put, zv, i64_w, i32_w]; rfl
      refine one_ (i := 8) (N := some 21) (bz 12 511) rfl rfl (one_of HT_.out zz) (by decide) (fun K hK => ?_); refine value_ (w1 := ?_) (v := ?_) (by rfl) rfl ?_ ?_; rotate_left 2
      ·go_simp; constructor
       ·rfl
       ·rfl
      refine hK.out _ _ ⟨(blk_cell (blk_alloc BK698.out _) 0).trans rfl, (blk_cell (blk_alloc BK696.out _) 0).trans rfl, (World.cell?_alloc_lt _ _ _ (World.block_lt_of_cell? _ _ ((zcl HB.out hw699_0)))).trans ((zcl HB.out hw699_0)), (World.cell?_alloc_lt _ _ _ (World.block_lt_of_cell? _ _ ((zcl HB.out hw699_1)))).trans ((zcl HB.out hw699_1))⟩ (fun hHeld => ?_); clear hK K; refine norm_ (a' := ?_) ?_ ?_; rotate_left
      ·show Act.put _ (some 21) _ = _; simp only [Act.put, zv, i64_w, i32_w]; rfl
      refine one_ (i := 9) (N := some 22) (bz 12 1023) rfl rfl (one_of HT_.out zz) (by decide) (fun K hK => ?_); refine Kd.R_append_step k47 (w0 := w) w.heap.size (by rfl) (.tmp 14) (.tmp 21) 67 47 (.agg #[(.slice none 0 0), (.int .i64 0)]) 32 rfl Try.underlying67 info47 rfl (by decide) (by omega) u699000 x699000_1 (⟨t700, t703⟩ : S47) [.slice Ao18 t700.length co18, .int .i64 t703] (fun _ => True) (fun k_ => ((fun _ => True)) k_ ∧ some k_ ≠ (u699000 : Value).ownBlock) rfl rfl ?aP (fun _ hk => hk) ?aF ?aO ?aB ?aS ?aL ?_; (case aP => exact k47_mkM _ _ _ (⟨t700, t703⟩ : S47) (Kd.R_mono (Kd.R_apart' ((Kd.S_R HO702.out)) (Kd.R_typed HO_699000.out) (by decide)) (fun k_ hk => ⟨trivial, hk.2⟩)))
      (case aB => exact (zU HB.out))
      (case aF => exact (fun _ _ => trivial))
      (case aO => exact (by (with_reducible repeat (first | apply zA | apply zB | apply zC)); exact Kd.R_mono HO_699000.out (fun _ hk => trivial)))
      (case aS => exact (below_size (zU HB.out)))
      (case aL => have := LMc11.out; omega)
      intro v705 w17 ho hb hg hat; rw [← Ny704.out] at ho; have n0_ := zk (blk_grown (g := gb696) (o := .cells #[.slice (some ad699) l0_0.length c0_0] 69 (0, 0)) (zb BK696.out) hg (Kd.R_ne HO_699000.out BK696.out (by decide))); have n1_ := zk (blk_grown (g := gb697) (o := .cells #[.slice none 0 0] 69 (0, 0)) (zb BK697.out) hg (Kd.R_ne HO_699000.out BK697.out (by decide))); have n2_ := zk (blk_grown (g := gb698) (o := .cells #[u699000] 69 (0, 0)) (zb BK698.out) hg (Kd.R_ne HO_699000.out BK698.out (by decide))); have n3_ := zk (hb); have n4_ := zk (ho); clear BK696; clear BK697; clear BK698; clear HB; clear HO_699000; clear HO702; have BK696 := n0_; have BK697 := n1_; have BK698 := n2_; have HB := n3_; have HO706 := n4_; clear n0_ n1_ n2_ n3_ n4_; clear ho hb hg hat; obtain ⟨Ao19, co19, eo19⟩ := Kd.R_slice HO706.out
      (first | subst eo19 | (injection eo19 with f1_ f2_ f3_; have f4_ := f1_.symm; have f5_ := f3_.symm; clear f1_ f2_ f3_; subst f4_; subst f5_))
      refine hK.out _ _ ⟨(blk_cell BK698.out 0).trans rfl, (blk_cell BK696.out 0).trans rfl, (zcl HB.out hw699_0), (zcl HB.out hw699_1)⟩ (fun hHeld => ?_); clear hK K; refine norm_ (a' := ?_) ?_ ?_; rotate_left
      ·show Act.put _ (some 22) _ = _; simp only [Act.put, zv, i64_w, i32_w]; rfl
      refine zp 10 (some 23) (v := ?_) (a' := ?_) (bz 12 2047) rfl rfl HT_.out zz zQ ?_ ?_ ?_; rotate_left
      ·intro w'; go_simp; with_reducible rfl
      rotate_left
      ·simp only [Act.put, zv, i64_w, i32_w]; rfl
      refine last_ (i := 11) (N := none) (bz 12 4095) rfl rfl (one_of HT_.out zz) (by decide) (fun K hK => ?_); have hs20 : w17.cell? ⟨gb698, 0, none⟩ = some (u699000) := zh BK698.out 0; have hfs20 := blk_frozen BK698.out 0; have hns20_0 := NB696_698.out; have hns20_1 := NB697_698.out; have hms20_0 := NB698_696.out; have hms20_1 := NB698_697.out; refine skip_ (w1 := ?_) (by rfl) rfl ?_ ?_; rotate_left
      ·go_simp; rfl
      refine hK.out _ _ ?_; clear hK K; refine done_ (done_of HT_.out zz) ?_; try go_wp2
      go_roundg k1
      case measure => have := HK1.out; omega
      case rel => exact ⟨(wrap64 (x4_1 + 1)), (y704), (.slice Ao19 y704.length co19), zR, H', ⟨by have := HK1.out; omega⟩, ⟨by (with_reducible repeat (first | apply zA | apply zB | apply zC)); exact Kd.R_mono (Kd.R_far (p := ⟨gb698, 0, none⟩) (Kd.R_types HO706.out BK698.out (by decide)) (fun _ hk => hk.2) (.slice Ao19 y704.length co19)) (fun _ hk => trivial)⟩, ⟨zb BK696.out⟩, ⟨zb BK697.out⟩, ⟨by (with_reducible repeat (first | refine blk_drewN ?_ _ | refine blk_drew ?_ | refine blk_alloc ?_ _)); refine blk_put (cs := #[u699000]) ?_ 0 _ rfl; exact zb BK698.out⟩, ⟨zU HB.out⟩⟩
     ·rw [if_neg c11] at H; exact absurd H (by simp)
    ·rw [if_neg c9] at H; exact absurd H (by simp)
   ·rw [if_neg c8] at H; have c8b0 : decide (x4_1 < (l0_0.length : Int)) = false := decide_eq_false c8; clear c8; obtain rfl := Option.some.inj H; have hnb21 := NB696_697.out; have hnc21 := NB697_696.out; have hnb22 := NB696_698.out; have hnc22 := NB698_696.out; have hcz23_0 : wr.cell? ⟨gb696, 0, none⟩ = some (.slice A0_0 l0_0.length c0_0) := zh BK696.out 0; have hfz23_0 := blk_frozen BK696.out 0; have hnb24 := NB698_697.out; have hnc24 := NB697_698.out; have hcz25_0 : wr.cell? ⟨gb698, 0, none⟩ = some (u699000) := zh BK698.out 0; have hfz25_0 := blk_frozen BK698.out 0; obtain ⟨Ao26, co26, eo26⟩ := Kd.R_slice HO_699000.out; subst eo26; have hcz27_0 : wr.cell? ⟨gb697, 0, none⟩ = some (.slice none 0 0) := zh BK697.out 0; have hfz27_0 := blk_frozen BK697.out 0; go_wp2
    refine bodyPost_ret (results_cell_row rfl _ _ gb697 69 #[.slice Ao26 x699000_1.length co26] (0, 0) _ rfl (by (with_reducible repeat (first | refine blk_drewN ?_ _ | refine blk_drew ?_ | refine blk_alloc ?_ _)); refine blk_put (cs := #[.slice none 0 0]) ?_ 0 _ rfl; exact zb BK697.out) Try.underlying69 rfl zz) rfl ?_; exact ⟨_, ze, by (with_reducible repeat (first | apply zA | apply zB | apply zC)); exact Kd.R_mono (Kd.R_far (p := ⟨gb697, 0, none⟩) (Kd.R_types HO_699000.out BK697.out (by decide)) (fun _ hk => hk.2) (.slice Ao26 x699000_1.length co26)) (fun _ hk => trivial), zU HB.out⟩
end Go.Proofs.Ytoljcfocgaonpaa.I
