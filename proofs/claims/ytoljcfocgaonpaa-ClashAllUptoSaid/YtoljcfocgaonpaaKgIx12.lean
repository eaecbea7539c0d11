/- Words and walks of this claim, of the text Ix12. -/
import Derived.Test.YtoljcfocgaonpaaKgQW0
import Derived.Test.YtoljcfocgaonpaaKgIx0
import Derived.Test.YtoljcfocgaonpaaKgIx6
import Derived.Test.YtoljcfocgaonpaaKgIx9
namespace Go.Proofs.Ytoljcfocgaonpaa.I
open Go.RowKit Go.Proofs.YtoljcfocgaonpaaW.PrintWords Go.Proofs.YtoljcfocgaonpaaW.PrintLast Go.Proofs.YtoljcfocgaonpaaW.PrintMore
attribute [local go_sem] max2_int min2_int max_two min_two max_three min_three max_four min_four
set_option linter.unusedVariables false
set_option linter.unusedSimpArgs false
def spans_Valid.f (k : Nat) (l0 : List (S34)) : Option (Bool) := (api_Span_106.f k l0).bind fun t341 => ((sets_Valid.f k t341 255).bind fun t344 => (some t344))
set_option maxHeartbeats 8000000 in
set_option maxRecDepth 100000 in
theorem spans_Valid.calls (k : Nat) (A0 : Option Addr) (c0 : Nat) (l0 : List (S34)) (r : Bool) (w : World) (hr0 : Kd.C k34 w A0 l0.length l0) (hc0 : l0.length ≤ c0) (h : spans_Valid.f k l0 = some r) :
 Calls Try.prog 137 #[.slice A0 l0.length c0] w fun e w' => e = .returned (.bool r) ∧ Below w.heap.size w w' := by
 have HR0 := zk hr0; have HC0 := zk hc0; clear hr0 hc0; have HB := zk (Below.refl w.heap.size w); have H : ((api_Span_106.f k l0).bind fun t341 => ((sets_Valid.f k t341 255).bind fun t344 => (some t344))) = some r := h; clear h; replace H := Option.bind_eq_some_iff.mp H; obtain ⟨t341, A20, H⟩ := H; replace H : ((sets_Valid.f k t341 255).bind fun t344 => (some t344)) = some r := H; have A2 := zk A20; clear A20; replace H := Option.bind_eq_some_iff.mp H; obtain ⟨t344, A30, H⟩ := H; replace H : (some t344) = some r := H; have A3 := zk A30; clear A30; obtain rfl := Option.some.inj H; go_enter Try.func137, Try.ntmps137
 go_wp2_with (first | ((with_reducible refine gate_callee (f := 106) rfl ?_); refine goesL_ (some 4) rfl rfl Try.func106 zz rfl #[.slice A0 l0.length c0] rfl zM ?_; (with_reducible refine (api_Span_106.calls k _ _ l0 t341 _ ?side1 ?side2 A2.out).mono ?_); (case side1 => exact zc HR0.out); (case side2 => exact HC0.out); rintro e w4 ⟨v342, rfl, ho0, hb⟩; refine ⟨_, rfl, ?_⟩; have HO343 := zk (Kd.R_lower ho0 (below_size (zU HB.out))); replace HB := zk (below_step (zU HB.out) hb);  (try clear hb); (try clear hb2); (try clear hk); (try clear hi); (try clear ho0); obtain ⟨Ao5, co5, eo5⟩ := Kd.R_slice HO343.out; subst eo5) | ((with_reducible refine gate_callee (f := 110) rfl ?_); refine goesL_ (some 5) rfl rfl Try.func110 zz rfl #[.slice Ao5 t341.length co5, .int .i64 255] rfl zM ?_; (with_reducible refine (sets_Valid.calls k _ _ t341 255 t344 _ ?side1 ?side2 A3.out).mono ?_); (case side1 => exact zc (Kd.R_reads' HO343.out).2.2); (case side2 => exact (Kd.R_reads' HO343.out).2.1); rintro e w6 ⟨rfl, hb⟩; refine ⟨_, rfl, ?_⟩; replace HO343 := zk (Kd.R_below (zr HO343.out) hb); replace HB := zk (below_step (zU HB.out) hb);  (try clear hb); (try clear hb2); (try clear hk); (try clear hi)))
 go_ret
 exact ⟨ze, zU HB.out⟩
def scheme_none.f (k : Nat) (l0 : List (S34)) : Option (Bool) := if (l0.length : Int) = 0 then (some true) else ((spans_Valid.f k l0).bind fun t345 => (some (!t345)))
set_option maxHeartbeats 8000000 in
set_option maxRecDepth 100000 in
theorem scheme_none.calls (k : Nat) (A0 : Option Addr) (c0 : Nat) (l0 : List (S34)) (r : Bool) (w : World) (hr0 : Kd.C k34 w A0 l0.length l0) (hc0 : l0.length ≤ c0) (h : scheme_none.f k l0 = some r) :
 Calls Try.prog 120 #[.slice A0 l0.length c0] w fun e w' => e = .returned (.bool r) ∧ Below w.heap.size w w' := by
 have HR0 := zk hr0; have HC0 := zk hc0; clear hr0 hc0; have HB := zk (Below.refl w.heap.size w); have H : (if (l0.length : Int) = 0 then (some true) else ((spans_Valid.f k l0).bind fun t345 => (some (!t345)))) = some r := h; clear h; by_cases c2 : (l0.length : Int) = 0
 ·rw [if_pos c2] at H; have c2b0 : ((l0.length : Int) == 0) = true := beq_iff_eq.mpr c2; have c2b1 : ((l0.length : Int) != 0) = false := bne_eq_false_iff_eq.mpr c2; clear c2; obtain rfl := Option.some.inj H; go_enter Try.func120, Try.ntmps120
  go_wp2
  go_ret
  exact ⟨ze, zU HB.out⟩
 ·rw [if_neg c2] at H; have c2b0 : ((l0.length : Int) == 0) = false := beq_eq_false_iff_ne.mpr c2; have c2b1 : ((l0.length : Int) != 0) = true := bne_iff_ne.mpr c2; have c2b2 : ¬ (l0 = []) := fun h_ => c2 (by rw [h_]; rfl)
  replace H := Option.bind_eq_some_iff.mp H; obtain ⟨t345, A30, H⟩ := H; replace H : (some (!t345)) = some r := H; have A3 := zk A30; clear A30; obtain rfl := Option.some.inj H; go_enter Try.func120, Try.ntmps120
  go_wp2_with (first | (go_at_call 137; (with_reducible refine (spans_Valid.calls k _ _ l0 t345 _ ?side1 ?side2 A3.out).mono ?_); (case side1 => exact zc HR0.out); (case side2 => exact HC0.out); rintro e w4 ⟨rfl, hb⟩; replace HB := zk (below_step (zU HB.out) hb);  (try clear hb); (try clear hb2); (try clear hk); (try clear hi)))
  go_ret
  exact ⟨ze, zU HB.out⟩
def slices_anyNone.go (k : Nat) : List (List S34) → Option Bool
 | [] => some false
 | x :: t => (scheme_none.f k x).bind fun b => if b = true then some true else slices_anyNone.go k t
def slices_anyNone.f (k : Nat) (l0 : List (List S34)) : Option Bool := if l0.length ≤ 8796093022206 then slices_anyNone.go k l0 else none
set_option maxHeartbeats 8000000 in
set_option maxRecDepth 100000 in
theorem slices_anyNone.index (k : Nat) (A0 : Option Addr) (c0 : Nat) (l0 : List (List S34)) (b : Bool) (w : World) (hr0 : Kd.C (Kd.slice 34 k34) w A0 l0.length l0) (hsm : l0.length ≤ 8796093022206) (h : slices_anyNone.go k l0 = some b) :
 Calls Try.prog 136 #[.slice A0 l0.length c0, .func (.func 120) #[] #[]] w fun e w' => ∃ i : Int, e = .returned (.int .i64 i) ∧ Aside0 (b = decide (0 ≤ i) ∧ -1 ≤ i ∧ i ≤ 8796093022206) ∧ Below w.heap.size w w' := by
 have HR0 := zk hr0; have HS := zk hsm; have HG := zk h; clear hr0 hsm h; have HB := zk (Below.refl w.heap.size w); go_enter Try.func136, Try.ntmps136
 go_wp2
 go_loopg [8] (l0.length + 1) (fun kq v8 w' => ∃ n : Nat, v8 = .int .i64 (n : Int) ∧ Aside0 (n + kq = l0.length + 1 ∧ n ≤ l0.length) ∧ Aside0 (slices_anyNone.go k (l0.drop n) = some b) ∧ Aside0 (Below w.heap.size w w'))
 case atStart => exact ⟨0, rfl, ⟨by omega, by omega⟩, HG, HB⟩
 case round =>
  clear HG HB; obtain ⟨n, rfl, HN, HG, HB⟩ := hrel; have hN := HN.out; have hS := HS.out
  cases gk with
  | zero => exact absurd hN (by omega)
  | succ ko =>
  by_cases c : n < l0.length
  ·have c_ := zk c; have p : 0 ≤ (n : Int) := by omega
   have q : (n : Int) < (l0.length : Int) := by omega
   have cb : decide ((n : Int) < (l0.length : Int)) = true := decide_eq_true q; have cb2 : decide (n < l0.length) = true := decide_eq_true c; obtain ⟨ad, cs, rfl, hcl, hK, hcc⟩ := Kd.C_get (Kd.C_below HR0.out HB.out) ([] : List S34) (n : Int) p q; have hx := hcc 0; obtain ⟨A1, c1, rfl, hle, hC⟩ := hK; replace hx := hx _ rfl; have hsz : (Kd.slice 34 k34).sz = 1 := rfl; simp only [hsz, Int.toNat_natCast, Nat.mul_one, Nat.add_zero] at hx hC hle; generalize hxx : l0.getD n [] = x at hx hC hle; have hg := HG.out; rw [List.drop_eq_getElem_cons c] at hg; have hxe : l0[n] = x := by rw [← hxx]; simp [List.getD, c]
   rw [hxe] at hg; have HC1 := zk hC; have HL1 := zk hle; obtain ⟨bx, h1, h2⟩ := Option.bind_eq_some_iff.mp hg; have H1 := zk h1; clear hcc hcl hC hle hg hxx hxe h1 hsz hN hS c HG; replace p := eq_true p; replace q := eq_true q; have HB2 := HB; cases bx with
   | true =>
    simp only [if_true] at h2; obtain rfl := Option.some.inj h2; go_wp2_with (go_at_call 120; refine (scheme_none.calls k A1 c1 x true _ HC1.out HL1.out H1.out).mono ?_; rintro e w1 ⟨rfl, hb⟩; have HB3 := zk (below_step HB2.out hb); clear hb)
    go_ret
    exact ⟨(n : Int), rfl, ⟨by simp, by omega, by have := HS.out; have := c_.out; omega⟩, HB3.out⟩
   | false =>
    simp only [Bool.false_eq_true, if_false] at h2; have H2 := zk h2; clear h2; go_wp2_with (go_at_call 120; refine (scheme_none.calls k A1 c1 x false _ HC1.out HL1.out H1.out).mono ?_; rintro e w1 ⟨rfl, hb⟩; have HB3 := zk (below_step HB2.out hb); clear hb)
    have hN := HN.out; have c := c_.out; have hS := HS.out; go_roundg ko
    case measure => omega
    case rel => exact ⟨n + 1, by first | (rw [w64o (by omega) (by omega)]; simp; done) | (simp; done), ⟨by omega, by omega⟩, H2, HB3⟩
  ·have cb : decide ((n : Int) < (l0.length : Int)) = false := decide_eq_false (by omega); have cb2 : decide (n < l0.length) = false := decide_eq_false c; have hg := HG.out; rw [List.drop_of_length_le (by omega)] at hg; obtain rfl : b = false := (Option.some.inj hg).symm; clear c hN hS hg; go_wp2
   go_ret
   exact ⟨-1, rfl, ⟨by simp, by omega, by omega⟩, HB.out⟩
set_option maxHeartbeats 8000000 in
theorem slices_anyNone.calls (k : Nat) (A0 : Option Addr) (c0 : Nat) (l0 : List (List S34)) (r : Bool) (w : World) (hr0 : Kd.C (Kd.slice 34 k34) w A0 l0.length l0) (hc0 : l0.length ≤ c0) (h : slices_anyNone.f k l0 = some r) :
 Calls Try.prog 119 #[.slice A0 l0.length c0, .func (.func 120) #[] #[]] w fun e w' => e = .returned (.bool r) ∧ Below w.heap.size w w' := by
 unfold slices_anyNone.f at h; by_cases c : l0.length ≤ 8796093022206
 ·rw [if_pos c] at h; have hI := slices_anyNone.index k A0 c0 l0 r w hr0 c h; clear hr0 hc0 h c; go_enter Try.func119, Try.ntmps119
  go_wp2_with (go_at_call 136; refine hI.mono ?_; rintro e w1 ⟨i, rfl, hi, hb⟩; have HI := hi; clear hi hI; have HB1 := zk hb; clear hb)
  go_ret
  exact ⟨by rw [HI.out.1]; rfl, HB1.out⟩
 ·rw [if_neg c] at h; cases h
def scheme_last.l0 : Nat → Int → List (List (S34)) → Int → Int → List (List (S34)) → Int → Option (Int)
 | 0, _, _, _, _, _, _ => none
 | k + 1, x3, x7, x8, x9, x347000, x347001 => if x9 < x8 then (if 0 ≤ x9 then (if x9 < (x7.length : Int) then ((spans_Size.f k (rd_L4 x7 x9)).bind fun t348 => (scheme_last.l0 k (mn (wrap64 (x3 * t348)) 1073741825) x7 x8 (wrap64 (x9 + 1)) x347000 x347001)) else (none)) else (none)) else (some (wrap64 ((wrap64 (x347001 + x3)) - 1)))
def scheme_last.f (k : Nat) (l0_0 : List (List (S34))) (a0_1 : Int) : Option (Int) := scheme_last.l0 k 1 l0_0 (l0_0.length : Int) 0 l0_0 a0_1
set_option maxHeartbeats 8000000 in
set_option maxRecDepth 100000 in
theorem scheme_last.calls (k : Nat) (A0_0 : Option Addr) (c0_0 : Nat) (l0_0 : List (List (S34))) (a0_1 : Int) (r : Int) (w : World) (hr0_0 : Kd.C (Kd.slice 34 k34) w A0_0 l0_0.length l0_0) (hc0_0 : l0_0.length ≤ c0_0) (h : scheme_last.f k l0_0 a0_1 = some r) :
 Calls Try.prog 121 #[.agg #[.slice A0_0 l0_0.length c0_0, .int .i64 a0_1]] w fun e w' => e = .returned (.int .i64 r) ∧ Below w.heap.size w w' := by
 have hu47 := Try.underlying47; have HR0_0 := zk hr0_0; have HC0_0 := zk hc0_0; clear hr0_0 hc0_0; have HB := zk (Below.refl w.heap.size w); have H : (scheme_last.l0 k 1 l0_0 (l0_0.length : Int) 0 l0_0 a0_1) = some r := h; clear h; have H' := zk H; clear H; go_enter Try.func121, Try.ntmps121
 go_wp2_with (first | ((with_reducible refine gate_dst (N := 1) rfl ?_); refine box_event ?hg (N := 1) ?hd (cs := #[.slice A0_0 l0_0.length c0_0, .int .i64 a0_1]) (t := 47) ?hr ?_; (case hd => rfl); (case hg => rfl); (case hr => first | (go_simp; done) | (go_simp; rfl)); intro gb346 hg w2 hbox hb; have BK346 := zk (hbox); have GE346 := zk ((zg hg HB.out : w.heap.size ≤ gb346)); replace HB := zk (below_step (zU HB.out) hb);  clear hb hbox hg; have hcz3_0 : w2.cell? ⟨gb346, 0, none⟩ = some (.slice A0_0 l0_0.length c0_0) := zh BK346.out 0; have hcz3_1 : w2.cell? ⟨gb346, 1, none⟩ = some (.int .i64 a0_1) := zh BK346.out 1; have hfz3_0 := blk_frozen BK346.out 0; have hfz3_1 := blk_frozen BK346.out 1))
 go_loopg [3, 9] k (fun kq v3 v9 w' => ∃ (x3_1 : Int) (x9_1 : Int), v3 = .int .i64 x3_1 ∧ v9 = .int .i64 x9_1 ∧ Aside0 (scheme_last.l0 kq x3_1 l0_0 (l0_0.length : Int) x9_1 l0_0 a0_1 = some r) ∧ Aside0 (kq ≤ k) ∧ Aside0 (w'.heap[gb346]? = some (.cells #[(.slice A0_0 l0_0.length c0_0), .int .i64 a0_1] 47 (0, 0))) ∧ Aside0 (Below w.heap.size w w'))
 case atStart => exact ⟨(1), (0), zR, zR, H', ⟨Nat.le_refl _⟩, ⟨zb BK346.out⟩, ⟨zU HB.out⟩⟩
 case round =>
  clear H'; (try clear c1); (try clear p2); (try clear hcz3_0); (try clear hcz3_1); (try clear hfz3_0); (try clear hfz3_1); obtain ⟨x3_1, x9_1, rfl, rfl, HA, HK1, BK346, HB⟩ := hrel
  cases gk with
  | zero => exact absurd HA.out (by simp [scheme_last.l0])
  | succ k1 =>
   have H := HA.out; clear HA; simp only [scheme_last.l0] at H; by_cases c4 : x9_1 < (l0_0.length : Int)
   ·rw [if_pos c4] at H; have c4b0 : decide (x9_1 < (l0_0.length : Int)) = true := decide_eq_true c4; clear c4; by_cases c5 : 0 ≤ x9_1
    ·rw [if_pos c5] at H; have c5b0 : decide (0 ≤ x9_1) = true := decide_eq_true c5; clear c5; by_cases c6 : x9_1 < (l0_0.length : Int)
     ·rw [if_pos c6] at H; have c6b0 : decide (x9_1 < (l0_0.length : Int)) = true := decide_eq_true c6; clear c6; replace H := Option.bind_eq_some_iff.mp H; obtain ⟨t348, A70, H⟩ := H; replace H : (scheme_last.l0 k1 (mn (wrap64 (x3_1 * t348)) 1073741825) l0_0 (l0_0.length : Int) (wrap64 (x9_1 + 1)) l0_0 a0_1) = some r := H; have A7 := zk A70; clear A70; obtain ⟨ji8, hji8⟩ : ∃ j_ : Int, (mn (wrap64 (x3_1 * t348)) 1073741825) = j_ := ⟨_, rfl⟩
      replace H : (scheme_last.l0 k1 ji8 l0_0 (l0_0.length : Int) (wrap64 (x9_1 + 1)) l0_0 a0_1) = some r := by first | (rw [hji8] at H; exact H) | (simp only [hji8] at H ⊢; exact H)
      (try rw [hji8] at A7)
      have hji8_ : (if 1073741825 < (wrap64 (x3_1 * t348)) then 1073741825 else (wrap64 (x3_1 * t348))) = ji8 := hji8; have H' := zk H; clear H; have p347 : 0 ≤ (x9_1 : Int) := zT; have q347 : x9_1 < (l0_0.length : Int) := zT; obtain ⟨ad347, A347_0, c347_0, e347, hx347_0, hl347_0, hi347_0⟩ := at_L4 HR0_0.out x9_1 p347 q347; cases e347; replace hx347_0 := zcl HB.out hx347_0; have HR347_0 := zk hi347_0; have HC347_0 := zk hl347_0; clear hi347_0 hl347_0; replace p347 := eq_true p347; replace q347 := eq_true q347; go_wp2_with (first | ((with_reducible refine gate_callee (f := 58) rfl ?_); refine goesL_ (some 15) rfl rfl Try.func58 zz rfl #[.slice A347_0 (rd_L4 l0_0 x9_1).length c347_0] rfl zM ?_; (with_reducible refine (spans_Size.calls k1 _ _ (rd_L4 l0_0 x9_1) t348 _ ?side1 ?side2 A7.out).mono ?_); (case side1 => exact zc (Kd.C_below HR347_0.out HB.out)); (case side2 => exact HC347_0.out); rintro e w9 ⟨rfl, hb⟩; refine ⟨_, rfl, ?_⟩; replace BK346 := zk (zbb BK346.out hb); replace HB := zk (below_step (zU HB.out) hb);  (try clear hb); (try clear hb2); (try clear hk); (try clear hi)))
      go_roundg k1
      case measure => have := HK1.out; omega
      case rel => exact ⟨(ji8), (wrap64 (x9_1 + 1)), (by first | rfl | (simp; done) | (rw [← hji8_, if_pos (by omega)]; first | done | rfl) | (rw [← hji8_, if_neg (by omega)]; first | done | rfl) | (simp only [← hji8] <;> (first | rfl | simp)) | (simp [*]; done)), zR, H', ⟨by have := HK1.out; omega⟩, ⟨zb BK346.out⟩, ⟨zU HB.out⟩⟩
     ·rw [if_neg c6] at H; exact absurd H (by simp)
    ·rw [if_neg c5] at H; exact absurd H (by simp)
   ·rw [if_neg c4] at H; have c4b0 : decide (x9_1 < (l0_0.length : Int)) = false := decide_eq_false c4; clear c4; obtain rfl := Option.some.inj H; have hcz10_0 : wr.cell? ⟨gb346, 0, none⟩ = some (.slice A0_0 l0_0.length c0_0) := zh BK346.out 0; have hcz10_1 : wr.cell? ⟨gb346, 1, none⟩ = some (.int .i64 a0_1) := zh BK346.out 1; have hfz10_0 := blk_frozen BK346.out 0; have hfz10_1 := blk_frozen BK346.out 1; go_wp2
    go_ret
    exact ⟨ze, zU HB.out⟩
end Go.Proofs.Ytoljcfocgaonpaa.I
