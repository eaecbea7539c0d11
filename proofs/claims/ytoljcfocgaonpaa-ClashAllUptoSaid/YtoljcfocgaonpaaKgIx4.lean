/- Words and walks of this claim, of the text Ix4. -/
import Derived.Test.YtoljcfocgaonpaaKgQW0
import Derived.Test.YtoljcfocgaonpaaKgIx0
namespace Go.Proofs.Ytoljcfocgaonpaa.I
open Go.RowKit Go.Proofs.YtoljcfocgaonpaaW.PrintWords Go.Proofs.YtoljcfocgaonpaaW.PrintLast Go.Proofs.YtoljcfocgaonpaaW.PrintMore
attribute [local go_sem] max2_int min2_int max_two min_two max_three min_three max_four min_four
set_option linter.unusedVariables false
set_option linter.unusedSimpArgs false
def sets_Run_132.l0 : Nat → List (S34) → List (S133) → Int → Int → Option ((List (S34)))
 | 0, _, _, _, _ => none
 | k + 1, x3, x9, x10, x11 => if x11 < x10 then (if 0 ≤ x11 then (if x11 < (x9.length : Int) then (if x3.length < 8796093022208 then (sets_Run_132.l0 k (x3 ++ [(⟨(rd_T133 x9 x11).f0, (rd_T133 x9 x11).f1⟩ : S34)]) x9 x10 (wrap64 (x11 + 1))) else (none)) else (none)) else (none)) else (some x3)
def sets_Run_132.f (k : Nat) (l0 : List (S133)) : Option ((List (S34))) := if 0 ≤ (l0.length : Int) then (if ((l0.length : Int) : Int).toNat ≤ 17592186044416 then (sets_Run_132.l0 k (([] : List (S34))) l0 (l0.length : Int) 0) else (none)) else (none)
set_option maxHeartbeats 8000000 in
set_option maxRecDepth 100000 in
theorem sets_Run_132.calls (k : Nat) (A0 : Option Addr) (c0 : Nat) (l0 : List (S133)) (r : List (S34)) (w : World) (hr0 : Kd.C k133 w A0 l0.length l0) (hc0 : l0.length ≤ c0) (h : sets_Run_132.f k l0 = some r) :
 Calls Try.prog 132 #[.slice A0 l0.length c0] w fun e w' => ∃ v0_ : Value, e = .returned (v0_) ∧ Kd.R k34 34 w' w.heap.size (fun _ => True) v0_ r ∧ Below w.heap.size w w' := by
 have hu133 := Try.underlying133; have HR0 := zk hr0; have HC0 := zk hc0; clear hr0 hc0; have HB := zk (Below.refl w.heap.size w); have H : (if 0 ≤ (l0.length : Int) then (if ((l0.length : Int) : Int).toNat ≤ 17592186044416 then (sets_Run_132.l0 k (([] : List (S34))) l0 (l0.length : Int) 0) else (none)) else (none)) = some r := h; clear h; by_cases c2 : 0 ≤ (l0.length : Int)
 ·rw [if_pos c2] at H; have c2b0 := eq_true c2; have c2b1 : decide (0 ≤ (l0.length : Int)) = true := decide_eq_true c2; clear c2; by_cases c3 : ((l0.length : Int) : Int).toNat ≤ 17592186044416
  ·rw [if_pos c3] at H; have c3b0 := eq_true c3; have c3b1 : decide (((l0.length : Int) : Int).toNat ≤ 17592186044416) = true := decide_eq_true c3; clear c3; obtain ⟨y101, hy101⟩ : ∃ y_ : List (S34), y_ = (([] : List (S34))) := ⟨_, rfl⟩
   replace H : (sets_Run_132.l0 k y101 l0 (l0.length : Int) 0) = some r := by first | (rw [hy101]; with_reducible exact H) | (have H2_ := (Option.bind_some _ _).symm.trans H; rw [hy101]; with_reducible exact H2_) | (have H2_ := (Option.bind_some _ _).symm.trans H; with_reducible exact H2_) | with_reducible exact H | (rw [hy101]; exact H) | exact H
   have Ny101 := zk hy101; clear hy101; have H' := zk H; clear H; go_enter Try.func132, Try.ntmps132
   go_wp2_with (first | ((with_reducible refine gate_dst (N := 8) rfl ?_); refine KdCap.R_makecap k34 _ 34 rfl (N := 8) rfl 22 _ _ rfl (l0.length : Int) rfl rfl Try.underlying22 (.agg #[(.int .i64 0), (.int .i64 0)]) 16 info34 (by decide) (ok := fun _ => True) (okp := fun _ => True) (fun _ hk => hk) trivial zT (Nat.le_trans (Nat.mul_le_mul_right _ (zT : (l0.length : Int).toNat ≤ 17592186044416)) (by omega)) (Below.refl _ _) (Nat.le_refl _) ?_; intro v102 w4 ho5 hb hg_ hnew_; clear hg_ hnew_; (first | rw [← Ny101.out] at ho5 | (simp only [Int.reduceToNat] at ho5; rw [← Ny101.out] at ho5)); have HO103 := zk (Kd.R_lower ho5 (below_size (zU HB.out))); replace HB := zk (below_step (zU HB.out) hb);  clear hb ho5))
   go_loopg [3, 11] k (fun kq v3 v11 w' => ∃ (x3_1 : List (S34)) (x11_1 : Int), v11 = .int .i64 x11_1 ∧ Aside0 (sets_Run_132.l0 kq x3_1 l0 (l0.length : Int) x11_1 = some r) ∧ Aside0 (kq ≤ k) ∧ Aside0 (Kd.R k34 34 w' w.heap.size (fun _ => True) v3 x3_1) ∧ Aside0 (Below w.heap.size w w'))
   case atStart => exact ⟨(y101), (0), zR, H', ⟨Nat.le_refl _⟩, ⟨by (with_reducible repeat (first | apply zA | apply zB | apply zC)); exact HO103.out⟩, ⟨zU HB.out⟩⟩
   case round =>
    clear H'; (try clear c1); (try clear c2); (try clear c2b0); (try clear c2b1); (try clear p2); (try clear c3); (try clear c3b0); (try clear c3b1); obtain ⟨x3_1, x11_1, rfl, HA, HK1, HO_3, HB⟩ := hrel
    cases gk with
    | zero => exact absurd HA.out (by simp [sets_Run_132.l0])
    | succ k1 =>
     have H := HA.out; clear HA; simp only [sets_Run_132.l0] at H; by_cases c6 : x11_1 < (l0.length : Int)
     ·rw [if_pos c6] at H; have c6b0 : decide (x11_1 < (l0.length : Int)) = true := decide_eq_true c6; clear c6; by_cases c7 : 0 ≤ x11_1
      ·rw [if_pos c7] at H; have c7b0 : decide (0 ≤ x11_1) = true := decide_eq_true c7; clear c7; by_cases c8 : x11_1 < (l0.length : Int)
       ·rw [if_pos c8] at H; have c8b0 : decide (x11_1 < (l0.length : Int)) = true := decide_eq_true c8; clear c8; by_cases c9 : x3_1.length < 8796093022208
        ·rw [if_pos c9] at H; have LMc9 := zk c9; clear c9; obtain ⟨y106, hy106⟩ : ∃ y_ : List (S34), y_ = (x3_1 ++ [(⟨(rd_T133 l0 x11_1).f0, (rd_T133 l0 x11_1).f1⟩ : S34)]) := ⟨_, rfl⟩
         replace H : (sets_Run_132.l0 k1 y106 l0 (l0.length : Int) (wrap64 (x11_1 + 1))) = some r := by first | (rw [hy106]; with_reducible exact H) | (have H2_ := (Option.bind_some _ _).symm.trans H; rw [hy106]; with_reducible exact H2_) | (have H2_ := (Option.bind_some _ _).symm.trans H; with_reducible exact H2_) | with_reducible exact H | (rw [hy106]; exact H) | exact H
         have Ny106 := zk hy106; clear hy106; have H' := zk H; clear H; have p104 : 0 ≤ (x11_1 : Int) := zT; have q104 : x11_1 < (l0.length : Int) := zT; obtain ⟨ad104, e104, hx104_0, hx104_1⟩ := at_T133 HR0.out x11_1 p104 q104; cases e104; replace hx104_0 := zcl HB.out hx104_0; replace hx104_1 := zcl HB.out hx104_1; replace p104 := eq_true p104; replace q104 := eq_true q104; go_wp2_with (first | ((with_reducible refine gate_dst (N := 5) rfl ?_); refine box_event ?hg (N := 5) ?hd (cs := #[.int .i64 0, .int .i64 0]) (t := 133) ?hr ?_; (case hd => rfl); (case hg => rfl); (case hr => first | (go_simp; done) | (go_simp; rfl)); intro gb105 hg w10 hbox hb; replace HO_3 := zk (Kd.R_below (zr HO_3.out) hb); have BK105 := zk (hbox); have GE105 := zk ((zg hg HB.out : w.heap.size ≤ gb105)); replace HB := zk (below_step (zU HB.out) hb);  clear hb hbox hg; have hcz11_0 : w10.cell? ⟨gb105, 0, none⟩ = some (.int .i64 0) := zh BK105.out 0; have hcz11_1 : w10.cell? ⟨gb105, 1, none⟩ = some (.int .i64 0) := zh BK105.out 1; have hfz11_0 := blk_frozen BK105.out 0; have hfz11_1 := blk_frozen BK105.out 1) | ((with_reducible refine gate_builtin (b := .append) (xs := #[.tmp 15, .tmp 17]) rfl ?_); at_builtin; refine Kd.R_append k34 (w0 := w) w.heap.size rfl (.tmp 15) (.tmp 17) 22 34 (.agg #[(.int .i64 0), (.int .i64 0)]) 16 rfl Try.underlying22 info34 rfl (by decide) (by omega) u3 x3_1 (⟨(rd_T133 l0 x11_1).f0, (rd_T133 l0 x11_1).f1⟩ : S34) [.int .i64 ((rd_T133 l0 x11_1).f0), .int .i64 ((rd_T133 l0 x11_1).f1)] (fun _ => True) (fun _ => False) rfl (by first | (go_simp; done) | (go_simp; rfl)) ?aP (fun _ hk => hk.elim) ?aF ?aO ?aB ?aS ?aL ?_; (case aP => exact k34_mkM _ _ _ (⟨(rd_T133 l0 x11_1).f0, (rd_T133 l0 x11_1).f1⟩ : S34)); (case aB => exact (zU HB.out)); (case aF => exact (fun _ _ => trivial)); (case aO => exact (by (with_reducible repeat (first | apply zA | apply zB | apply zC)); exact Kd.R_mono (Kd.R_far (p := ⟨gb105, 1, none⟩) (Kd.R_far (p := ⟨gb105, 0, none⟩) (Kd.R_types HO_3.out BK105.out (by decide)) (fun _ hk => hk.2) (.int .i64 ((rd_T133 l0 x11_1).f0))) (fun _ hk => hk.2) (.int .i64 ((rd_T133 l0 x11_1).f1))) (fun _ hk => trivial))); (case aS => exact (below_size (zU HB.out))); (case aL => have := LMc9.out; omega); intro v107 w12 ho hb hg hat; rw [← Ny106.out] at ho; have n0_ := zk (blk_grown (g := gb105) (o := .cells #[.int .i64 ((rd_T133 l0 x11_1).f0), .int .i64 ((rd_T133 l0 x11_1).f1)] 133 (0, 0)) (by (with_reducible repeat (first | refine blk_drewN ?_ _ | refine blk_drew ?_ | refine blk_alloc ?_ _)); refine blk_put (cs := #[.int .i64 ((rd_T133 l0 x11_1).f0), .int .i64 0]) ?_ 1 _ rfl; (with_reducible repeat (first | refine blk_drewN ?_ _ | refine blk_drew ?_ | refine blk_alloc ?_ _)); refine blk_put (cs := #[.int .i64 0, .int .i64 0]) ?_ 0 _ rfl; exact zb BK105.out) hg (Kd.R_ne HO_3.out BK105.out (by decide))); have n1_ := zk (hb); have n2_ := zk (ho); clear BK105; clear HB; clear HO_3; have BK105 := n0_; have HB := n1_; have HO108 := n2_; clear n0_ n1_ n2_; clear ho hb hg hat))
         go_roundg k1
         case measure => have := HK1.out; omega
         case rel => exact ⟨(y106), (wrap64 (x11_1 + 1)), zR, H', ⟨by have := HK1.out; omega⟩, ⟨by (with_reducible repeat (first | apply zA | apply zB | apply zC)); exact HO108.out⟩, ⟨zU HB.out⟩⟩
        ·rw [if_neg c9] at H; exact absurd H (by simp)
       ·rw [if_neg c8] at H; exact absurd H (by simp)
      ·rw [if_neg c7] at H; exact absurd H (by simp)
     ·rw [if_neg c6] at H; have c6b0 : decide (x11_1 < (l0.length : Int)) = false := decide_eq_false c6; clear c6; obtain rfl := Option.some.inj H; go_wp2
      go_ret
      exact ⟨_, ze, by (with_reducible repeat (first | apply zA | apply zB | apply zC)); exact HO_3.out, zU HB.out⟩
  ·rw [if_neg c3] at H; exact absurd H (by simp)
 ·rw [if_neg c2] at H; exact absurd H (by simp)
def spans_back.f (k : Nat) (l0 : List (S133)) : Option ((List (S34))) := (sets_Run_132.f k l0).bind fun t109 => (some t109)
set_option maxHeartbeats 8000000 in
set_option maxRecDepth 100000 in
theorem spans_back.calls (k : Nat) (A0 : Option Addr) (c0 : Nat) (l0 : List (S133)) (r : List (S34)) (w : World) (hr0 : Kd.C k133 w A0 l0.length l0) (hc0 : l0.length ≤ c0) (h : spans_back.f k l0 = some r) :
 Calls Try.prog 104 #[.slice A0 l0.length c0] w fun e w' => ∃ v0_ : Value, e = .returned (v0_) ∧ Kd.R k34 34 w' w.heap.size (fun _ => True) v0_ r ∧ Below w.heap.size w w' := by
 have HR0 := zk hr0; have HC0 := zk hc0; clear hr0 hc0; have HB := zk (Below.refl w.heap.size w); have H : ((sets_Run_132.f k l0).bind fun t109 => (some t109)) = some r := h; clear h; replace H := Option.bind_eq_some_iff.mp H; obtain ⟨t109, A20, H⟩ := H; replace H : (some t109) = some r := H; have A2 := zk A20; clear A20; obtain rfl := Option.some.inj H; go_enter Try.func104, Try.ntmps104
 go_wp2_with (first | ((with_reducible refine gate_callee (f := 132) rfl ?_); refine goesL_ (some 4) rfl rfl Try.func132 zz rfl #[.slice A0 l0.length c0] rfl zM ?_; (with_reducible refine (sets_Run_132.calls k _ _ l0 t109 _ ?side1 ?side2 A2.out).mono ?_); (case side1 => exact zc HR0.out); (case side2 => exact HC0.out); rintro e w3 ⟨v110, rfl, ho0, hb⟩; refine ⟨_, rfl, ?_⟩; have HO111 := zk (Kd.R_lower ho0 (below_size (zU HB.out))); replace HB := zk (below_step (zU HB.out) hb);  (try clear hb); (try clear hb2); (try clear hk); (try clear hi); (try clear ho0)))
 go_ret
 exact ⟨_, ze, by (with_reducible repeat (first | apply zA | apply zB | apply zC)); exact HO111.out, zU HB.out⟩
def sortRun.enc (x : S133) : List Value := [.int .i64 x.f0, .int .i64 x.f1]
instance : Inhabited S133 := ⟨z133⟩
def sortRun.f (l0 : List (S133)) : Option (List (S133)) := if l0.length < 8796093022208 then some (Go.Sort.pdq (ltOf fun x y : S133 => Lib.compareInt x.f0 y.f0) l0.toArray 0 l0.toArray.size (Lib.bitLen l0.toArray.size) true true).toList else none
theorem sortRun.lt_iff (x y : S133) : ltOf (fun x y : S133 => Lib.compareInt x.f0 y.f0) x y = decide (x.f0 < y.f0) := by
 unfold ltOf Lib.compareInt; by_cases h1 : x.f0 < y.f0
 ·simp [h1]
 ·by_cases h2 : y.f0 < x.f0 <;> simp [h1, h2]
theorem sortRun.swo : Go.Sort.SWO (ltOf fun x y : S133 => Lib.compareInt x.f0 y.f0) where
 irrefl x := by rw [sortRun.lt_iff]; simp
 trans x y z h1 h2 := by rw [sortRun.lt_iff] at *; simp at *; omega
 ntrans x y z h1 h2 := by rw [sortRun.lt_iff] at *; simp at *; omega
theorem sortRun.some_of (l r : List (S133)) (h : sortRun.f l = some r) : l.length < 8796093022208 ∧ some (Go.Sort.pdq (ltOf fun x y : S133 => Lib.compareInt x.f0 y.f0) l.toArray 0 l.toArray.size (Lib.bitLen l.toArray.size) true true).toList = some r := by
 unfold sortRun.f at h; split at h
 ·rename_i hl; exact ⟨hl, h⟩
 ·cases h
theorem sortRun.spec (l r : List (S133)) (h : sortRun.f l = some r) : r.Perm l ∧ r.Pairwise (fun x y => x.f0 ≤ y.f0) := by
 replace h := (sortRun.some_of l r h).2; obtain rfl := Option.some.inj h; have hs := Go.Sort.pdq_sorts _ sortRun.swo l.toArray 0 l.toArray.size (Lib.bitLen l.toArray.size) true true (Nat.zero_le _) (Nat.le_refl _) (Or.inl rfl); generalize Go.Sort.pdq (ltOf fun x y : S133 => Lib.compareInt x.f0 y.f0) l.toArray 0 l.toArray.size (Lib.bitLen l.toArray.size) true true = d at hs ⊢; obtain ⟨⟨hsz, _, hperm⟩, hsorted⟩ := hs; refine ⟨?_, ?_⟩
 ·have e1 : d.extract 0 l.toArray.size = d := by rw [← hsz]; simp
  have e2 : l.toArray.extract 0 l.toArray.size = l.toArray := by simp
  rw [e1, e2] at hperm; simpa using hperm
 ·rw [List.pairwise_iff_getElem]; intro i j hi hj hij; have hj' : j < d.size := by simpa using hj
  have hi' : i < d.size := by simpa using hi
  have := hsorted i j (Nat.zero_le _) hij (by rw [← hsz]; exact hj'); rw [sortRun.lt_iff, getElem!_pos d i hi', getElem!_pos d j hj'] at this; simp at this; simpa using this
set_option maxHeartbeats 1000000 in
theorem sortRun.closure (x y : S133) (W : World) : Calls Try.prog 134 #[.agg (sortRun.enc x).toArray, .agg (sortRun.enc y).toArray] W fun e w' => e = .returned (.int .i64 (Lib.compareInt x.f0 y.f0)) ∧ ∃ q os', w' = Go.Sort.grow (W.drewN q) os' := by
 have hcon := fun W' => AnyG.cmp_Compare_int Try.cmpInt x.f0 y.f0 W'
 change ∀ W', Calls Try.prog 89 _ _ _ at hcon
 show Calls Try.prog 134 #[.agg #[.int .i64 x.f0, .int .i64 x.f1], .agg #[.int .i64 y.f0, .int .i64 y.f1]] W _; generalize Lib.compareInt x.f0 y.f0 = r at hcon ⊢; go_enter Try.func134, Try.ntmps134
 go_wp2_with (go_at_call 89; refine (hcon _).mono ?_; rintro e w' ⟨rfl, rfl⟩)
 go_ret
 exact ⟨rfl, 0, _, by rw [Go.Sort.alloc_eq_grow, Go.Sort.alloc_eq_grow, Go.Sort.grow_grow]; rfl⟩
set_option maxHeartbeats 1000000 in
theorem sortRun.calls (P0_ : Nat → Prop) (u9000_ : Value) (l0 : List (S133)) (r : List (S133)) (w0 w : World) (hB : Below w0.heap.size w0 w) (ho0 : Kd.R k133 133 w w0.heap.size P0_ u9000_ l0) (h : sortRun.f l0 = some r) :
 Calls Try.prog 133 #[u9000_, .func (.func 134) #[] #[]] w fun e w' => e = .returned (.tuple #[]) ∧ Kd.R k133 133 w' w0.heap.size (fun k_ => (P0_ k_ ∨ w0.heap.size ≤ k_)) u9000_ r ∧ Below w0.heap.size w0 w' ∧ Kept w w' (fun k_ => P0_ k_) := by
 have hM : ∀ (W : World) (b : Nat) (ok : Nat → Prop) (x : S133) (cs : List Value), k133.M W b ok x cs → cs = sortRun.enc x := fun _ _ _ _ _ h => k133_openM h
 have hM' : ∀ (W : World) (b : Nat) (ok : Nat → Prop) (x : S133), k133.M W b ok x (sortRun.enc x) := fun W b ok x => k133_mkM W b ok x
 have hk : ∀ x : S133, (sortRun.enc x).length = 2 := fun _ => rfl
 have hcell : ∀ x : S133, ∀ v ∈ sortRun.enc x, v.oneCell' = true := fun x v hv => by simp [sortRun.enc] at hv; rcases hv with rfl | rfl <;> rfl
 have hsm := (sortRun.some_of l0 r h).1; have hpm := sortRun.spec l0 r h; replace h := (sortRun.some_of l0 r h).2; obtain ⟨hP, inner, ho, hr⟩ := ho0; have ho' : w.ownsRow w0.heap.size 133 2 u9000_ l0.length inner := ho; have hflat := SortW.flat_of_reps (hM w w0.heap.size _) hk (show Reps _ 2 l0 inner from hr); rcases ho'.2 with ⟨hu, hn⟩ | ⟨g, cap, cur, hu, hg, hh, _, hcap, _⟩
 ·obtain rfl : l0 = [] := List.eq_nil_of_length_eq_zero hn; obtain rfl := Option.some.inj h; subst hu; refine (AnyF.slices_SortFunc_none Try.sortRunL none 0 (.func (.func 134) #[] #[]) w).mono ?_; rintro e w' ⟨rfl, rfl⟩; have h0 : Go.Sort.pdq (ltOf fun x y : S133 => Lib.compareInt x.f0 y.f0) ([] : List (S133)).toArray 0 ([] : List (S133)).toArray.size (Lib.bitLen ([] : List (S133)).toArray.size) true true = #[] := by
   have := (Go.Sort.pdq_sorts _ sortRun.swo (#[] : Array (S133)) 0 0 (Lib.bitLen 0) true true (Nat.zero_le _) (Nat.le_refl _) (Or.inl rfl)).1.1; exact Array.eq_empty_of_size_eq_zero this
  rw [h0]; exact ⟨rfl, Kd.R_nil _ _ _ _ _, hB, Kept.refl _ _⟩
 ·subst hu; have hH := SortW.holds_of_own ho' rfl hflat; have hlt : g < w.heap.size := (Array.getElem?_eq_some_iff.1 hh).1; have hsz : l0.toArray.size < 4611686018427387904 := by rw [List.size_toArray]; omega
  have hcon := AnyQ.slices_SortFunc_eq Try.sortRunL 2 Try.isAgg133 Try.sizeOf133 sortRun.enc hk hcell (fun x y : S133 => Lib.compareInt x.f0 y.f0) sortRun.swo 134 #[] g 0 cap l0.toArray w
   (enters_of Try.func134 zz rfl) (fun _ _ _ _ x y => sortRun.closure x y _) hH hlt hsz
  have hPg : P0_ g := hP g (by simp [Value.ownBlock]); obtain rfl := Option.some.inj h; refine (show Calls Try.prog 133 #[.slice (some ⟨g, 0, none⟩) l0.length cap, .func (.func 134) #[] #[]] w _ from hcon).mono ?_; rintro e w' ⟨rfl, n, os, rfl⟩; generalize Go.Sort.pdq (ltOf fun x y : S133 => Lib.compareInt x.f0 y.f0) l0.toArray 0 l0.toArray.size (Lib.bitLen l0.toArray.size) true true = d at hpm ⊢; have hds : d.size = l0.length := by simpa using hpm.1.length_eq
  refine ⟨rfl, ⟨fun k hk => .inl (hP k hk), (Go.Sort.flatK sortRun.enc 2 d).toList, ?_, ?_⟩, SortW.below_sorted hB hB.size sortRun.enc 2 g n hg d os, SortW.kept_sorted w sortRun.enc 2 g n d os _ hPg⟩
  ·have := SortW.own_sorted (enc := sortRun.enc) ho' n d os hds; rw [show d.toList.length = l0.length by simpa using hds]; exact this
  ·exact SortW.reps_of_flat (enc := sortRun.enc) (k := 2) (fun x => hM' _ _ _ x) hk d.toList
end Go.Proofs.Ytoljcfocgaonpaa.I
