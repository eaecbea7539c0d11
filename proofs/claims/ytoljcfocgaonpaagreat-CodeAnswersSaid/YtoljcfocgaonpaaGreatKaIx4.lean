/- Words and walks of this claim, of the text Ix4. -/
import Derived.Test.YtoljcfocgaonpaaGreatKaQW0
import Derived.Test.YtoljcfocgaonpaaGreatKaIx0
import Derived.Test.YtoljcfocgaonpaaGreatKaIx2
import Derived.Test.YtoljcfocgaonpaaGreatKaIx3
namespace Go.Proofs.I
open Go.RowKit Go.Proofs.Zw.PrintWords Go.Proofs.Zw.PrintLast Go.Proofs.Zw.PrintMore
set_option maxHeartbeats 8000000
set_option maxRecDepth 100000
attribute [local go_sem] Dw Ec El Es Dd Dj Dr Eb
set_option linter.unusedVariables false
set_option linter.unusedSimpArgs false
def Dm.f (k : Nat) (l0 : List (S63)) : Option ((List (S95))) := (Ea.f k l0).bind fun t179 => ((Cd.f k t179 1073741823).bind fun t182 => (if t182 = true then (some t179) else (some ([] : List (S95)))))
theorem Dm.calls (k : Nat) (A0 : Option Addr) (c0 : Nat) (l0 : List (S63)) (r : List (S95)) (w : World) (hr0 : Kd.C k63 w A0 l0.length l0) (hc0 : l0.length ≤ c0) (h : Dm.f k l0 = some r) :
 Calls Tryz.prog 49 #[.slice A0 l0.length c0] w fun e w' => ∃ v0_ : Value, e = .returned (v0_) ∧ Kd.R k95 95 w' w.heap.size (fun _ => True) v0_ r ∧ Below w.heap.size w w' := by
 have HR0 := zk hr0; have HC0 := zk hc0; clear hr0 hc0; have HB := zk (Below.refl w.heap.size w); have H : ((Ea.f k l0).bind fun t179 => ((Cd.f k t179 1073741823).bind fun t182 => (if t182 = true then (some t179) else (some ([] : List (S95)))))) = some r := h; clear h; replace H := Option.bind_eq_some_iff.mp H; obtain ⟨t179, A20, H⟩ := H; replace H : ((Cd.f k t179 1073741823).bind fun t182 => (if t182 = true then (some t179) else (some ([] : List (S95))))) = some r := H; have A2 := zk A20; clear A20; replace H := Option.bind_eq_some_iff.mp H; obtain ⟨t182, A30, H⟩ := H; replace H : (if t182 = true then (some t179) else (some ([] : List (S95)))) = some r := H; have A3 := zk A30; clear A30; by_cases c4 : t182 = true
 ·subst c4; have H1 : (some t179) = some r := by rw [if_pos rfl] at H; exact H
  clear H; have H := H1; clear H1; obtain rfl := Option.some.inj H; go_enter Tryz.func49, Tryz.ntmps49
  go_wp2_with (first | ((with_reducible refine Al (f := 70) rfl ?_); refine Bz (some 5) rfl rfl Tryz.func70 zz rfl #[.slice A0 l0.length c0] rfl zM ?_; (with_reducible refine (Ea.calls k _ _ l0 t179 _ ?side1 ?side2 A2.out).mono ?_); (case side1 => exact zc HR0.out); (case side2 => exact HC0.out); rintro e w5 ⟨v180, rfl, ho0, hb⟩; refine ⟨_, rfl, ?_⟩; have HO181 := zk (Kd.R_lower ho0 (Ar (zU HB.out))); replace HB := zs HB hb;  (try clear hb); (try clear hb2); (try clear hk); (try clear hi); (try clear ho0); obtain ⟨Ao6, co6, eo6⟩ := Kd.R_slice HO181.out; subst eo6) | ((with_reducible refine Al (f := 66) rfl ?_); refine Bz (some 7) rfl rfl Tryz.func66 zz rfl #[.slice Ao6 t179.length co6, .int .i64 1073741823] rfl zM ?_; (with_reducible refine (Cd.calls k _ _ t179 1073741823 true _ ?side1 ?side2 A3.out).mono ?_); (case side1 => exact zc (Kd.R_reads' HO181.out).2.2); (case side2 => exact (Kd.R_reads' HO181.out).2.1); rintro e w7 ⟨rfl, hb⟩; refine ⟨_, rfl, ?_⟩; replace HO181 := zk (Kd.R_below (zr HO181.out) hb); replace HB := zs HB hb;  (try clear hb); (try clear hb2); (try clear hk); (try clear hi)))
  go_ret
  exact ⟨_, ze, by (with_reducible repeat (first | apply zA | apply zB | apply zC)); exact HO181.out, zU HB.out⟩
 ·replace c4 := Bool.eq_false_iff.mpr c4; subst c4; have H1 : (some ([] : List (S95))) = some r := by rw [if_neg (show ¬ (false = true) by decide)] at H; exact H
  clear H; have H := H1; clear H1; obtain rfl := Option.some.inj H; go_enter Tryz.func49, Tryz.ntmps49
  go_wp2_with (first | ((with_reducible refine Al (f := 70) rfl ?_); refine Bz (some 5) rfl rfl Tryz.func70 zz rfl #[.slice A0 l0.length c0] rfl zM ?_; (with_reducible refine (Ea.calls k _ _ l0 t179 _ ?side1 ?side2 A2.out).mono ?_); (case side1 => exact zc HR0.out); (case side2 => exact HC0.out); rintro e w8 ⟨v180, rfl, ho0, hb⟩; refine ⟨_, rfl, ?_⟩; have HO181 := zk (Kd.R_lower ho0 (Ar (zU HB.out))); replace HB := zs HB hb;  (try clear hb); (try clear hb2); (try clear hk); (try clear hi); (try clear ho0); obtain ⟨Ao9, co9, eo9⟩ := Kd.R_slice HO181.out; subst eo9) | ((with_reducible refine Al (f := 66) rfl ?_); refine Bz (some 7) rfl rfl Tryz.func66 zz rfl #[.slice Ao9 t179.length co9, .int .i64 1073741823] rfl zM ?_; (with_reducible refine (Cd.calls k _ _ t179 1073741823 false _ ?side1 ?side2 A3.out).mono ?_); (case side1 => exact zc (Kd.R_reads' HO181.out).2.2); (case side2 => exact (Kd.R_reads' HO181.out).2.1); rintro e w10 ⟨rfl, hb⟩; refine ⟨_, rfl, ?_⟩; replace HO181 := zk (Kd.R_below (zr HO181.out) hb); replace HB := zs HB hb;  (try clear hb); (try clear hb2); (try clear hk); (try clear hi)))
  go_ret
  exact ⟨_, ze, by first | exact Kd.R_nil _ _ _ _ _ | exact Kd.N_nil _ _ _ _ _ | exact Kd.V_nil _ _ _ _ _ | exact Kd.Q_nil _ _ _ _ _ | exact Kd.S_nil _ _ _ _ _, zU HB.out⟩
def Ez.f (k : Nat) (l0 : List (S63)) (l1 : List (S63)) : Option ((List (S63))) := (Dm.f k l0).bind fun t183 => ((Dm.f k l1).bind fun t186 => ((Bm.f k t183 t186).bind fun t189 => ((Db.f k t189).bind fun t192 => (some t192))))
theorem Ez.calls (k : Nat) (A0 : Option Addr) (c0 : Nat) (l0 : List (S63)) (A1 : Option Addr) (c1 : Nat) (l1 : List (S63)) (r : List (S63)) (w : World) (hr0 : Kd.C k63 w A0 l0.length l0) (hc0 : l0.length ≤ c0) (hr1 : Kd.C k63 w A1 l1.length l1) (hc1 : l1.length ≤ c1) (h : Ez.f k l0 l1 = some r) :
 Calls Tryz.prog 27 #[.slice A0 l0.length c0, .slice A1 l1.length c1] w fun e w' => ∃ v0_ : Value, e = .returned (v0_) ∧ Kd.R k63 63 w' w.heap.size (fun _ => True) v0_ r ∧ Below w.heap.size w w' := by
 have HR0 := zk hr0; have HC0 := zk hc0; clear hr0 hc0; have HR1 := zk hr1; have HC1 := zk hc1; clear hr1 hc1; have HB := zk (Below.refl w.heap.size w); have H : ((Dm.f k l0).bind fun t183 => ((Dm.f k l1).bind fun t186 => ((Bm.f k t183 t186).bind fun t189 => ((Db.f k t189).bind fun t192 => (some t192))))) = some r := h; clear h; replace H := Option.bind_eq_some_iff.mp H; obtain ⟨t183, A30, H⟩ := H; replace H : ((Dm.f k l1).bind fun t186 => ((Bm.f k t183 t186).bind fun t189 => ((Db.f k t189).bind fun t192 => (some t192)))) = some r := H; have A3 := zk A30; clear A30; replace H := Option.bind_eq_some_iff.mp H; obtain ⟨t186, A40, H⟩ := H; replace H : ((Bm.f k t183 t186).bind fun t189 => ((Db.f k t189).bind fun t192 => (some t192))) = some r := H; have A4 := zk A40; clear A40; replace H := Option.bind_eq_some_iff.mp H; obtain ⟨t189, A50, H⟩ := H; replace H : ((Db.f k t189).bind fun t192 => (some t192)) = some r := H; have A5 := zk A50; clear A50; replace H := Option.bind_eq_some_iff.mp H; obtain ⟨t192, A60, H⟩ := H; replace H : (some t192) = some r := H; have A6 := zk A60; clear A60; obtain rfl := Option.some.inj H; go_enter Tryz.func27, Tryz.ntmps27
 go_wp2_with (first | ((with_reducible refine Al (f := 49) rfl ?_); refine Bz (some 6) rfl rfl Tryz.func49 zz rfl #[.slice A0 l0.length c0] rfl zM ?_; (with_reducible refine (Dm.calls k _ _ l0 t183 _ ?side1 ?side2 A3.out).mono ?_); (case side1 => exact zc HR0.out); (case side2 => exact HC0.out); rintro e w7 ⟨v184, rfl, ho0, hb⟩; refine ⟨_, rfl, ?_⟩; have HO185 := zk (Kd.R_lower ho0 (Ar (zU HB.out))); replace HB := zs HB hb;  (try clear hb); (try clear hb2); (try clear hk); (try clear hi); (try clear ho0)) | ((with_reducible refine Al (f := 49) rfl ?_); refine Bz (some 8) rfl rfl Tryz.func49 zz rfl #[.slice A1 l1.length c1] rfl zM ?_; (with_reducible refine (Dm.calls k _ _ l1 t186 _ ?side1 ?side2 A4.out).mono ?_); (case side1 => exact zc (Kd.C_below HR1.out HB.out)); (case side2 => exact HC1.out); rintro e w8 ⟨v187, rfl, ho0, hb⟩; refine ⟨_, rfl, ?_⟩; have HO188 := zk (Kd.R_lower (Kd.R_new' ho0 (Kd.R_lt (zr HO185.out))) (Ar (zU HB.out))); replace HO185 := zk (Kd.R_elder' (zr HO185.out) (Kd.R_base ho0) hb); replace HB := zs HB hb;  (try clear hb); (try clear hb2); (try clear hk); (try clear hi); (try clear ho0); obtain ⟨Ao9, co9, eo9⟩ := Kd.R_slice HO185.out; subst eo9; obtain ⟨Ao10, co10, eo10⟩ := Kd.R_slice HO188.out; subst eo10) | ((with_reducible refine Al (f := 48) rfl ?_); refine Bz (some 9) rfl rfl Tryz.func48 zz rfl #[.slice Ao9 t183.length co9, .slice Ao10 t186.length co10] rfl zM ?_; (with_reducible refine (Bm.calls k (fun k_ => some k_ = (.slice Ao9 t183.length co9 : Value).ownBlock) _ _ t183 (fun k_ => some k_ = (.slice Ao10 t186.length co10 : Value).ownBlock) _ _ t186 t189 _ ?side1 ?side2 A5.out).mono ?_); (case side1 => exact Kd.R_V (Kd.R_tight rfl (HO185.out))); (case side2 => exact Kd.R_V (Kd.R_tight rfl (HO188.out))); rintro e w11 ⟨v190, rfl, ho0, hb⟩; refine ⟨_, rfl, ?_⟩; have HO191 := zk (Kd.R_lower (Kd.R_new' (Kd.R_new' (Kd.R_mono (ok' := fun k_ => True) ho0 (fun _ hk_ => trivial)) (Kd.R_lt (zr HO185.out))) (Kd.R_lt (zr HO188.out))) (Ar (zU HB.out))); replace HO185 := zk (Kd.R_elder' (zr HO185.out) (Kd.R_base ho0) hb); replace HO188 := zk (Kd.R_elder' (zr HO188.out) (Kd.R_base ho0) hb); replace HB := zs HB hb;  (try clear hb); (try clear hb2); (try clear hk); (try clear hi); (try clear ho0); obtain ⟨Ao12, co12, eo12⟩ := Kd.R_slice HO191.out; subst eo12) | ((with_reducible refine Al (f := 47) rfl ?_); refine Bz (some 10) rfl rfl Tryz.func47 zz rfl #[.slice Ao12 t189.length co12] rfl zM ?_; (with_reducible refine (Db.calls k _ _ t189 t192 _ ?side1 ?side2 A6.out).mono ?_); (case side1 => exact zc (Kd.R_reads' HO191.out).2.2); (case side2 => exact (Kd.R_reads' HO191.out).2.1); rintro e w13 ⟨v193, rfl, ho0, hb⟩; refine ⟨_, rfl, ?_⟩; replace HO185 := zk (Kd.R_below (zr HO185.out) hb); replace HO188 := zk (Kd.R_below (zr HO188.out) hb); replace HO191 := zk (Kd.R_below (zr HO191.out) hb); have HO194 := zk (Kd.R_lower ho0 (Ar (zU HB.out))); replace HB := zs HB hb;  (try clear hb); (try clear hb2); (try clear hk); (try clear hi); (try clear ho0)))
 go_ret
 exact ⟨_, ze, by (with_reducible repeat (first | apply zA | apply zB | apply zC)); exact HO194.out, zU HB.out⟩
def Cq.enc (x : S95) : List Value := [.int .i64 x.f0, .int .i64 x.f1]
instance : Inhabited S95 := ⟨z95⟩
def Cq.f (l0 : List (S95)) : Option (List (S95)) := if l0.length < 8796093022208 then some (Go.Sort.pdq (ltOf fun x y : S95 => Lib.compareInt x.f0 y.f0) l0.toArray 0 l0.toArray.size (Lib.bitLen l0.toArray.size) true true).toList else none
theorem Cq.lt_iff (x y : S95) : ltOf (fun x y : S95 => Lib.compareInt x.f0 y.f0) x y = decide (x.f0 < y.f0) := by
 unfold ltOf Lib.compareInt; by_cases h1 : x.f0 < y.f0
 ·simp [h1]
 ·by_cases h2 : y.f0 < x.f0 <;> simp [h1, h2]
theorem Cq.swo : Go.Sort.SWO (ltOf fun x y : S95 => Lib.compareInt x.f0 y.f0) where
 irrefl x := by rw [Cq.lt_iff]; simp
 trans x y z h1 h2 := by rw [Cq.lt_iff] at *; simp at *; omega
 ntrans x y z h1 h2 := by rw [Cq.lt_iff] at *; simp at *; omega
theorem Cq.some_of (l r : List (S95)) (h : Cq.f l = some r) : l.length < 8796093022208 ∧ some (Go.Sort.pdq (ltOf fun x y : S95 => Lib.compareInt x.f0 y.f0) l.toArray 0 l.toArray.size (Lib.bitLen l.toArray.size) true true).toList = some r := by
 unfold Cq.f at h; split at h
 ·rename_i hl; exact ⟨hl, h⟩
 ·cases h
theorem Cq.spec (l r : List (S95)) (h : Cq.f l = some r) : r.Perm l ∧ r.Pairwise (fun x y => x.f0 ≤ y.f0) := by
 replace h := (Cq.some_of l r h).2; obtain rfl := Option.some.inj h; have hs := Go.Sort.pdq_sorts _ Cq.swo l.toArray 0 l.toArray.size (Lib.bitLen l.toArray.size) true true (Nat.zero_le _) (Nat.le_refl _) (Or.inl rfl); generalize Go.Sort.pdq (ltOf fun x y : S95 => Lib.compareInt x.f0 y.f0) l.toArray 0 l.toArray.size (Lib.bitLen l.toArray.size) true true = d at hs ⊢; obtain ⟨⟨hsz, _, hperm⟩, hsorted⟩ := hs; refine ⟨?_, ?_⟩
 ·have e1 : d.extract 0 l.toArray.size = d := by rw [← hsz]; simp
  have e2 : l.toArray.extract 0 l.toArray.size = l.toArray := by simp
  rw [e1, e2] at hperm; simpa using hperm
 ·rw [List.pairwise_iff_getElem]; intro i j hi hj hij; have hj' : j < d.size := by simpa using hj
  have hi' : i < d.size := by simpa using hi
  have := hsorted i j (Nat.zero_le _) hij (by rw [← hsz]; exact hj'); rw [Cq.lt_iff, getElem!_pos d i hi', getElem!_pos d j hj'] at this; simp at this; simpa using this
set_option maxHeartbeats 1000000 in
theorem Cq.closure (x y : S95) (W : World) : Calls Tryz.prog 72 #[.agg (Cq.enc x).toArray, .agg (Cq.enc y).toArray] W fun e w' => e = .returned (.int .i64 (Lib.compareInt x.f0 y.f0)) ∧ ∃ q os', w' = Go.Sort.grow (W.drewN q) os' := by
 have hcon := fun W' => AnyG.cmp_Compare_int Tryz.cmpInt x.f0 y.f0 W'
 change ∀ W', Calls Tryz.prog 61 _ _ _ at hcon
 show Calls Tryz.prog 72 #[.agg #[.int .i64 x.f0, .int .i64 x.f1], .agg #[.int .i64 y.f0, .int .i64 y.f1]] W _; generalize Lib.compareInt x.f0 y.f0 = r at hcon ⊢; go_enter Tryz.func72, Tryz.ntmps72
 go_wp2_with (go_at_call 61; refine (hcon _).mono ?_; rintro e w' ⟨rfl, rfl⟩)
 go_ret
 exact ⟨rfl, 0, _, by rw [Go.Sort.alloc_eq_grow, Go.Sort.alloc_eq_grow, Go.Sort.grow_grow]; rfl⟩
set_option maxHeartbeats 1000000 in
theorem Cq.calls (P0_ : Nat → Prop) (u9000_ : Value) (l0 : List (S95)) (r : List (S95)) (w0 w : World) (hB : Below w0.heap.size w0 w) (ho0 : Kd.R k95 95 w w0.heap.size P0_ u9000_ l0) (h : Cq.f l0 = some r) :
 Calls Tryz.prog 71 #[u9000_, .func (.func 72) #[] #[]] w fun e w' => e = .returned (.tuple #[]) ∧ Kd.R k95 95 w' w0.heap.size (fun k_ => (P0_ k_ ∨ w0.heap.size ≤ k_)) u9000_ r ∧ Below w0.heap.size w0 w' ∧ Kept w w' (fun k_ => P0_ k_) := by
 have hM : ∀ (W : World) (b : Nat) (ok : Nat → Prop) (x : S95) (cs : List Value), k95.M W b ok x cs → cs = Cq.enc x := fun _ _ _ _ _ h => k95_openM h
 have hM' : ∀ (W : World) (b : Nat) (ok : Nat → Prop) (x : S95), k95.M W b ok x (Cq.enc x) := fun W b ok x => k95_mkM W b ok x
 have hk : ∀ x : S95, (Cq.enc x).length = 2 := fun _ => rfl
 have hcell : ∀ x : S95, ∀ v ∈ Cq.enc x, v.oneCell' = true := fun x v hv => by simp [Cq.enc] at hv; rcases hv with rfl | rfl <;> rfl
 have hsm := (Cq.some_of l0 r h).1; have hpm := Cq.spec l0 r h; replace h := (Cq.some_of l0 r h).2; obtain ⟨hP, inner, ho, hr⟩ := ho0; have ho' : w.ownsRow w0.heap.size 95 2 u9000_ l0.length inner := ho; have hflat := SortW.flat_of_reps (hM w w0.heap.size _) hk (show Reps _ 2 l0 inner from hr); rcases ho'.2 with ⟨hu, hn⟩ | ⟨g, cap, cur, hu, hg, hh, _, hcap, _⟩
 ·obtain rfl : l0 = [] := List.eq_nil_of_length_eq_zero hn; obtain rfl := Option.some.inj h; subst hu; refine (AnyF.slices_SortFunc_none Tryz.sortRunL none 0 (.func (.func 72) #[] #[]) w).mono ?_; rintro e w' ⟨rfl, rfl⟩; have h0 : Go.Sort.pdq (ltOf fun x y : S95 => Lib.compareInt x.f0 y.f0) ([] : List (S95)).toArray 0 ([] : List (S95)).toArray.size (Lib.bitLen ([] : List (S95)).toArray.size) true true = #[] := by
   have := (Go.Sort.pdq_sorts _ Cq.swo (#[] : Array (S95)) 0 0 (Lib.bitLen 0) true true (Nat.zero_le _) (Nat.le_refl _) (Or.inl rfl)).1.1; exact Array.eq_empty_of_size_eq_zero this
  rw [h0]; exact ⟨rfl, Kd.R_nil _ _ _ _ _, hB, Kept.refl _ _⟩
 ·subst hu; have hH := SortW.holds_of_own ho' rfl hflat; have hlt : g < w.heap.size := (Array.getElem?_eq_some_iff.1 hh).1; have hsz : l0.toArray.size < 4611686018427387904 := by rw [List.size_toArray]; omega
  have hcon := AnyQ.slices_SortFunc_eq Tryz.sortRunL 2 Tryz.isAgg95 Tryz.sizeOf95 Cq.enc hk hcell (fun x y : S95 => Lib.compareInt x.f0 y.f0) Cq.swo 72 #[] g 0 cap l0.toArray w
   (enters_of Tryz.func72 zz rfl) (fun _ _ _ _ x y => Cq.closure x y _) hH hlt hsz
  have hPg : P0_ g := hP g (by simp [Value.ownBlock]); obtain rfl := Option.some.inj h; refine (show Calls Tryz.prog 71 #[.slice (some ⟨g, 0, none⟩) l0.length cap, .func (.func 72) #[] #[]] w _ from hcon).mono ?_; rintro e w' ⟨rfl, n, os, rfl⟩; generalize Go.Sort.pdq (ltOf fun x y : S95 => Lib.compareInt x.f0 y.f0) l0.toArray 0 l0.toArray.size (Lib.bitLen l0.toArray.size) true true = d at hpm ⊢; have hds : d.size = l0.length := by simpa using hpm.1.length_eq
  refine ⟨rfl, ⟨fun k hk => .inl (hP k hk), (Go.Sort.flatK Cq.enc 2 d).toList, ?_, ?_⟩, SortW.below_sorted hB hB.size Cq.enc 2 g n hg d os, SortW.kept_sorted w Cq.enc 2 g n d os _ hPg⟩
  ·have := SortW.own_sorted (enc := Cq.enc) ho' n d os hds; rw [show d.toList.length = l0.length by simpa using hds]; exact this
  ·exact SortW.reps_of_flat (enc := Cq.enc) (k := 2) (fun x => hM' _ _ _ x) hk d.toList
end Go.Proofs.I
