/- Words and walks of this claim, of the text Bx6. -/
import Derived.Test.YtkcklnmbeinfkaaKrQW0
import Derived.Test.YtkcklnmbeinfkaaKrBx0
import Derived.Test.YtkcklnmbeinfkaaKrBx5
namespace Go.Proofs.Ytkcklnmbeinfkaa.B
open Go.RowKit Go.Proofs.YtkcklnmbeinfkaaW.PrintWords Go.Proofs.YtkcklnmbeinfkaaW.PrintLast Go.Proofs.YtkcklnmbeinfkaaW.PrintMore
attribute [local go_sem] max2_int min2_int max_two min_two max_three min_three max_four min_four
set_option linter.unusedVariables false
set_option linter.unusedSimpArgs false
def scheme_last.l0 : Nat → Int → List (List (S113)) → Int → Int → List (List (S113)) → Int → Option (Int)
 | 0, _, _, _, _, _, _ => none
 | k + 1, x3, x7, x8, x9, x193000, x193001 => if x9 < x8 then (if 0 ≤ x9 then (if x9 < (x7.length : Int) then ((spans_Size.f k (rd_L4 x7 x9)).bind fun t194 => (scheme_last.l0 k (mn (wrap64 (x3 * t194)) 1073741825) x7 x8 (wrap64 (x9 + 1)) x193000 x193001)) else (none)) else (none)) else (some (wrap64 ((wrap64 (x193001 + x3)) - 1)))
def scheme_last.f (k : Nat) (l0_0 : List (List (S113))) (a0_1 : Int) : Option (Int) := scheme_last.l0 k 1 l0_0 (l0_0.length : Int) 0 l0_0 a0_1
theorem scheme_last.mono_l : ∀ k, (∀ y0 y1 y2 y3 y4 y5, LeO (scheme_last.l0 k y0 y1 y2 y3 y4 y5) (scheme_last.l0 (k + 1) y0 y1 y2 y3 y4 y5))
 | 0 => fun _ _ _ _ _ _ r h => by simp [scheme_last.l0] at h
 | k + 1 => by
  have ih0 := scheme_last.mono_l k
  ·intro y0 y1 y2 y3 y4 y5; unfold scheme_last.l0; repeat' first
   | (with_reducible exact ih0 _ _ _ _ _ _)
   | (with_reducible exact spans_Size.mono _ _)
   | (with_reducible exact LeO.refl _)
   | (with_reducible exact LeO.none _)
   | (with_reducible refine LeO.ite ?_ ?_)
   | (with_reducible refine LeO.bind ?_ (fun _ => ?_))
   | exact ih0 _ _ _ _ _ _
   | exact spans_Size.mono _ _
   | exact LeO.none _
   | refine LeO.ite ?_ ?_
   | refine LeO.bind ?_ (fun _ => ?_)
theorem scheme_last.mono : ∀ a0 a1 k, LeO (scheme_last.f k a0 a1) (scheme_last.f (k + 1) a0 a1) := by
 intro a0 a1 k; have ih0 := scheme_last.mono_l k; unfold scheme_last.f; repeat' first
  | (with_reducible exact ih0 _ _ _ _ _ _)
  | (with_reducible exact spans_Size.mono _ _)
  | (with_reducible exact LeO.refl _)
  | (with_reducible exact LeO.none _)
  | (with_reducible refine LeO.ite ?_ ?_)
  | (with_reducible refine LeO.bind ?_ (fun _ => ?_))
  | exact ih0 _ _ _ _ _ _
  | exact spans_Size.mono _ _
  | exact LeO.none _
  | refine LeO.ite ?_ ?_
  | refine LeO.bind ?_ (fun _ => ?_)
set_option maxHeartbeats 8000000 in
set_option maxRecDepth 100000 in
theorem scheme_last.calls (k : Nat) (A0_0 : Option Addr) (c0_0 : Nat) (l0_0 : List (List (S113))) (a0_1 : Int) (r : Int) (w : World) (hr0_0 : Kd.C (Kd.slice 113 k113) w A0_0 l0_0.length l0_0) (hc0_0 : l0_0.length ≤ c0_0) (h : scheme_last.f k l0_0 a0_1 = some r) :
 Calls Try.prog 116 #[.agg #[.slice A0_0 l0_0.length c0_0, .int .i64 a0_1]] w fun e w' => e = .returned (.int .i64 r) ∧ Below w.heap.size w w' := by
 have hu50 := Try.underlying50; have HR0_0 := zk hr0_0; have HC0_0 := zk hc0_0; clear hr0_0 hc0_0; have HB := zk (Below.refl w.heap.size w); have H : (scheme_last.l0 k 1 l0_0 (l0_0.length : Int) 0 l0_0 a0_1) = some r := h; clear h; have H' := zk H; clear H; go_enter Try.func116, Try.ntmps116
 go_wp2_with (first | ((with_reducible refine gate_dst (N := 1) rfl ?_); refine box_event ?hg (N := 1) ?hd (cs := #[.slice A0_0 l0_0.length c0_0, .int .i64 a0_1]) (t := 50) ?hr ?_; (case hd => rfl); (case hg => rfl); (case hr => first | (go_simp; done) | (go_simp; rfl)); intro gb192 hg w2 hbox hb; have BK192 := zk (hbox); have GE192 := zk ((zg hg HB.out : w.heap.size ≤ gb192)); replace HB := zk (below_step (zU HB.out) hb);  clear hb hbox hg; have hcz3_0 : w2.cell? ⟨gb192, 0, none⟩ = some (.slice A0_0 l0_0.length c0_0) := zh BK192.out 0; have hcz3_1 : w2.cell? ⟨gb192, 1, none⟩ = some (.int .i64 a0_1) := zh BK192.out 1; have hfz3_0 := blk_frozen BK192.out 0; have hfz3_1 := blk_frozen BK192.out 1))
 go_loopg [3, 9] k (fun kq v3 v9 w' => ∃ (x3_1 : Int) (x9_1 : Int), v3 = .int .i64 x3_1 ∧ v9 = .int .i64 x9_1 ∧ Aside0 (scheme_last.l0 kq x3_1 l0_0 (l0_0.length : Int) x9_1 l0_0 a0_1 = some r) ∧ Aside0 (kq ≤ k) ∧ Aside0 (w'.heap[gb192]? = some (.cells #[(.slice A0_0 l0_0.length c0_0), .int .i64 a0_1] 50 (0, 0))) ∧ Aside0 (Below w.heap.size w w'))
 case atStart => exact ⟨(1), (0), zR, zR, H', ⟨Nat.le_refl _⟩, ⟨zb BK192.out⟩, ⟨zU HB.out⟩⟩
 case round =>
  clear H'; (try clear c1); (try clear p2); (try clear hcz3_0); (try clear hcz3_1); (try clear hfz3_0); (try clear hfz3_1); obtain ⟨x3_1, x9_1, rfl, rfl, HA, HK1, BK192, HB⟩ := hrel
  cases gk with
  | zero => exact absurd HA.out (by simp [scheme_last.l0])
  | succ k1 =>
   have H := HA.out; clear HA; simp only [scheme_last.l0] at H; by_cases c4 : x9_1 < (l0_0.length : Int)
   ·rw [if_pos c4] at H; have c4b0 : decide (x9_1 < (l0_0.length : Int)) = true := decide_eq_true c4; clear c4; by_cases c5 : 0 ≤ x9_1
    ·rw [if_pos c5] at H; have c5b0 : decide (0 ≤ x9_1) = true := decide_eq_true c5; clear c5; by_cases c6 : x9_1 < (l0_0.length : Int)
     ·rw [if_pos c6] at H; have c6b0 : decide (x9_1 < (l0_0.length : Int)) = true := decide_eq_true c6; clear c6; replace H := Option.bind_eq_some_iff.mp H; obtain ⟨t194, A70, H⟩ := H; replace H : (scheme_last.l0 k1 (mn (wrap64 (x3_1 * t194)) 1073741825) l0_0 (l0_0.length : Int) (wrap64 (x9_1 + 1)) l0_0 a0_1) = some r := H; have A7 := zk A70; clear A70; obtain ⟨ji8, hji8⟩ : ∃ j_ : Int, (mn (wrap64 (x3_1 * t194)) 1073741825) = j_ := ⟨_, rfl⟩
      replace H : (scheme_last.l0 k1 ji8 l0_0 (l0_0.length : Int) (wrap64 (x9_1 + 1)) l0_0 a0_1) = some r := by first | (rw [hji8] at H; exact H) | (simp only [hji8] at H ⊢; exact H)
      (try rw [hji8] at A7)
      have hji8_ : (if 1073741825 < (wrap64 (x3_1 * t194)) then 1073741825 else (wrap64 (x3_1 * t194))) = ji8 := hji8; have H' := zk H; clear H; have p193 : 0 ≤ (x9_1 : Int) := zT; have q193 : x9_1 < (l0_0.length : Int) := zT; obtain ⟨ad193, A193_0, c193_0, e193, hx193_0, hl193_0, hi193_0⟩ := at_L4 HR0_0.out x9_1 p193 q193; cases e193; replace hx193_0 := zcl HB.out hx193_0; have HR193_0 := zk hi193_0; have HC193_0 := zk hl193_0; clear hi193_0 hl193_0; replace p193 := eq_true p193; replace q193 := eq_true q193; go_wp2_with (first | ((with_reducible refine gate_callee (f := 123) rfl ?_); refine goesL_ (some 15) rfl rfl Try.func123 zz rfl #[.slice A193_0 (rd_L4 l0_0 x9_1).length c193_0] rfl zM ?_; (with_reducible refine (spans_Size.calls k1 _ _ (rd_L4 l0_0 x9_1) t194 _ ?side1 ?side2 A7.out).mono ?_); (case side1 => exact zc (Kd.C_below HR193_0.out HB.out)); (case side2 => exact HC193_0.out); rintro e w9 ⟨rfl, hb⟩; refine ⟨_, rfl, ?_⟩; replace BK192 := zk (zbb BK192.out hb); replace HB := zk (below_step (zU HB.out) hb);  (try clear hb); (try clear hb2); (try clear hk); (try clear hi)))
      go_roundg k1
      case measure => have := HK1.out; omega
      case rel => exact ⟨(ji8), (wrap64 (x9_1 + 1)), (by first | rfl | (simp; done) | (rw [← hji8_, if_pos (by omega)]; first | done | rfl) | (rw [← hji8_, if_neg (by omega)]; first | done | rfl) | (simp only [← hji8] <;> (first | rfl | simp)) | (simp [*]; done)), zR, H', ⟨by have := HK1.out; omega⟩, ⟨zb BK192.out⟩, ⟨zU HB.out⟩⟩
     ·rw [if_neg c6] at H; exact absurd H (by simp)
    ·rw [if_neg c5] at H; exact absurd H (by simp)
   ·rw [if_neg c4] at H; have c4b0 : decide (x9_1 < (l0_0.length : Int)) = false := decide_eq_false c4; clear c4; obtain rfl := Option.some.inj H; have hcz10_0 : wr.cell? ⟨gb192, 0, none⟩ = some (.slice A0_0 l0_0.length c0_0) := zh BK192.out 0; have hcz10_1 : wr.cell? ⟨gb192, 1, none⟩ = some (.int .i64 a0_1) := zh BK192.out 1; have hfz10_0 := blk_frozen BK192.out 0; have hfz10_1 := blk_frozen BK192.out 1; go_wp2
    go_ret
    exact ⟨ze, zU HB.out⟩
def sortRun.enc (x : S139) : List Value := [.int .i64 x.f0, .int .i64 x.f1]
instance : Inhabited S139 := ⟨z139⟩
def sortRun.f (l0 : List (S139)) : Option (List (S139)) := if l0.length < 8796093022208 then some (Go.Sort.pdq (ltOf fun x y : S139 => Lib.compareInt x.f0 y.f0) l0.toArray 0 l0.toArray.size (Lib.bitLen l0.toArray.size) true true).toList else none
theorem sortRun.lt_iff (x y : S139) : ltOf (fun x y : S139 => Lib.compareInt x.f0 y.f0) x y = decide (x.f0 < y.f0) := by
 unfold ltOf Lib.compareInt; by_cases h1 : x.f0 < y.f0
 ·simp [h1]
 ·by_cases h2 : y.f0 < x.f0 <;> simp [h1, h2]
theorem sortRun.swo : Go.Sort.SWO (ltOf fun x y : S139 => Lib.compareInt x.f0 y.f0) where
 irrefl x := by rw [sortRun.lt_iff]; simp
 trans x y z h1 h2 := by rw [sortRun.lt_iff] at *; simp at *; omega
 ntrans x y z h1 h2 := by rw [sortRun.lt_iff] at *; simp at *; omega
theorem sortRun.some_of (l r : List (S139)) (h : sortRun.f l = some r) : l.length < 8796093022208 ∧ some (Go.Sort.pdq (ltOf fun x y : S139 => Lib.compareInt x.f0 y.f0) l.toArray 0 l.toArray.size (Lib.bitLen l.toArray.size) true true).toList = some r := by
 unfold sortRun.f at h; split at h
 ·rename_i hl; exact ⟨hl, h⟩
 ·cases h
theorem sortRun.spec (l r : List (S139)) (h : sortRun.f l = some r) : r.Perm l ∧ r.Pairwise (fun x y => x.f0 ≤ y.f0) := by
 replace h := (sortRun.some_of l r h).2; obtain rfl := Option.some.inj h; have hs := Go.Sort.pdq_sorts _ sortRun.swo l.toArray 0 l.toArray.size (Lib.bitLen l.toArray.size) true true (Nat.zero_le _) (Nat.le_refl _) (Or.inl rfl); generalize Go.Sort.pdq (ltOf fun x y : S139 => Lib.compareInt x.f0 y.f0) l.toArray 0 l.toArray.size (Lib.bitLen l.toArray.size) true true = d at hs ⊢; obtain ⟨⟨hsz, _, hperm⟩, hsorted⟩ := hs; refine ⟨?_, ?_⟩
 ·have e1 : d.extract 0 l.toArray.size = d := by rw [← hsz]; simp
  have e2 : l.toArray.extract 0 l.toArray.size = l.toArray := by simp
  rw [e1, e2] at hperm; simpa using hperm
 ·rw [List.pairwise_iff_getElem]; intro i j hi hj hij; have hj' : j < d.size := by simpa using hj
  have hi' : i < d.size := by simpa using hi
  have := hsorted i j (Nat.zero_le _) hij (by rw [← hsz]; exact hj'); rw [sortRun.lt_iff, getElem!_pos d i hi', getElem!_pos d j hj'] at this; simp at this; simpa using this
set_option maxHeartbeats 1000000 in
theorem sortRun.closure (x y : S139) (W : World) : Calls Try.prog 142 #[.agg (sortRun.enc x).toArray, .agg (sortRun.enc y).toArray] W fun e w' => e = .returned (.int .i64 (Lib.compareInt x.f0 y.f0)) ∧ ∃ q os', w' = Go.Sort.grow (W.drewN q) os' := by
 have hcon := fun W' => AnyG.cmp_Compare_int Try.cmpInt x.f0 y.f0 W'
 change ∀ W', Calls Try.prog 92 _ _ _ at hcon
 show Calls Try.prog 142 #[.agg #[.int .i64 x.f0, .int .i64 x.f1], .agg #[.int .i64 y.f0, .int .i64 y.f1]] W _; generalize Lib.compareInt x.f0 y.f0 = r at hcon ⊢; go_enter Try.func142, Try.ntmps142
 go_wp2_with (go_at_call 92; refine (hcon _).mono ?_; rintro e w' ⟨rfl, rfl⟩)
 go_ret
 exact ⟨rfl, 0, _, by rw [Go.Sort.alloc_eq_grow, Go.Sort.alloc_eq_grow, Go.Sort.grow_grow]; rfl⟩
set_option maxHeartbeats 1000000 in
theorem sortRun.calls (P0_ : Nat → Prop) (u9000_ : Value) (l0 : List (S139)) (r : List (S139)) (w0 w : World) (hB : Below w0.heap.size w0 w) (ho0 : Kd.R k139 139 w w0.heap.size P0_ u9000_ l0) (h : sortRun.f l0 = some r) :
 Calls Try.prog 141 #[u9000_, .func (.func 142) #[] #[]] w fun e w' => e = .returned (.tuple #[]) ∧ Kd.R k139 139 w' w0.heap.size (fun k_ => (P0_ k_ ∨ w0.heap.size ≤ k_)) u9000_ r ∧ Below w0.heap.size w0 w' ∧ Kept w w' (fun k_ => P0_ k_) := by
 have hM : ∀ (W : World) (b : Nat) (ok : Nat → Prop) (x : S139) (cs : List Value), k139.M W b ok x cs → cs = sortRun.enc x := fun _ _ _ _ _ h => k139_openM h
 have hM' : ∀ (W : World) (b : Nat) (ok : Nat → Prop) (x : S139), k139.M W b ok x (sortRun.enc x) := fun W b ok x => k139_mkM W b ok x
 have hk : ∀ x : S139, (sortRun.enc x).length = 2 := fun _ => rfl
 have hcell : ∀ x : S139, ∀ v ∈ sortRun.enc x, v.oneCell' = true := fun x v hv => by simp [sortRun.enc] at hv; rcases hv with rfl | rfl <;> rfl
 have hsm := (sortRun.some_of l0 r h).1; have hpm := sortRun.spec l0 r h; replace h := (sortRun.some_of l0 r h).2; obtain ⟨hP, inner, ho, hr⟩ := ho0; have ho' : w.ownsRow w0.heap.size 139 2 u9000_ l0.length inner := ho; have hflat := SortW.flat_of_reps (hM w w0.heap.size _) hk (show Reps _ 2 l0 inner from hr); rcases ho'.2 with ⟨hu, hn⟩ | ⟨g, cap, cur, hu, hg, hh, _, hcap, _⟩
 ·obtain rfl : l0 = [] := List.eq_nil_of_length_eq_zero hn; obtain rfl := Option.some.inj h; subst hu; refine (AnyF.slices_SortFunc_none Try.sortRunL none 0 (.func (.func 142) #[] #[]) w).mono ?_; rintro e w' ⟨rfl, rfl⟩; have h0 : Go.Sort.pdq (ltOf fun x y : S139 => Lib.compareInt x.f0 y.f0) ([] : List (S139)).toArray 0 ([] : List (S139)).toArray.size (Lib.bitLen ([] : List (S139)).toArray.size) true true = #[] := by
   have := (Go.Sort.pdq_sorts _ sortRun.swo (#[] : Array (S139)) 0 0 (Lib.bitLen 0) true true (Nat.zero_le _) (Nat.le_refl _) (Or.inl rfl)).1.1; exact Array.eq_empty_of_size_eq_zero this
  rw [h0]; exact ⟨rfl, Kd.R_nil _ _ _ _ _, hB, Kept.refl _ _⟩
 ·subst hu; have hH := SortW.holds_of_own ho' rfl hflat; have hlt : g < w.heap.size := (Array.getElem?_eq_some_iff.1 hh).1; have hsz : l0.toArray.size < 4611686018427387904 := by rw [List.size_toArray]; omega
  have hcon := AnyQ.slices_SortFunc_eq Try.sortRunL 2 Try.isAgg139 Try.sizeOf139 sortRun.enc hk hcell (fun x y : S139 => Lib.compareInt x.f0 y.f0) sortRun.swo 142 #[] g 0 cap l0.toArray w
   (enters_of Try.func142 zz rfl) (fun _ _ _ _ x y => sortRun.closure x y _) hH hlt hsz
  have hPg : P0_ g := hP g (by simp [Value.ownBlock]); obtain rfl := Option.some.inj h; refine (show Calls Try.prog 141 #[.slice (some ⟨g, 0, none⟩) l0.length cap, .func (.func 142) #[] #[]] w _ from hcon).mono ?_; rintro e w' ⟨rfl, n, os, rfl⟩; generalize Go.Sort.pdq (ltOf fun x y : S139 => Lib.compareInt x.f0 y.f0) l0.toArray 0 l0.toArray.size (Lib.bitLen l0.toArray.size) true true = d at hpm ⊢; have hds : d.size = l0.length := by simpa using hpm.1.length_eq
  refine ⟨rfl, ⟨fun k hk => .inl (hP k hk), (Go.Sort.flatK sortRun.enc 2 d).toList, ?_, ?_⟩, SortW.below_sorted hB hB.size sortRun.enc 2 g n hg d os, SortW.kept_sorted w sortRun.enc 2 g n d os _ hPg⟩
  ·have := SortW.own_sorted (enc := sortRun.enc) ho' n d os hds; rw [show d.toList.length = l0.length by simpa using hds]; exact this
  ·exact SortW.reps_of_flat (enc := sortRun.enc) (k := 2) (fun x => hM' _ _ _ x) hk d.toList
end Go.Proofs.Ytkcklnmbeinfkaa.B
