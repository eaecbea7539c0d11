/- Words and walks of this claim, of the text Ix9. -/
import Derived.Test.YtoljcfocgaonpaaKbQW0
import Derived.Test.YtoljcfocgaonpaaKbIx0
import Derived.Test.YtoljcfocgaonpaaKbIx8
namespace Go.Proofs.Ytoljcfocgaonpaa.I
open Go.RowKit Go.Proofs.YtoljcfocgaonpaaW.PrintWords Go.Proofs.YtoljcfocgaonpaaW.PrintLast Go.Proofs.YtoljcfocgaonpaaW.PrintMore
attribute [local go_sem] max2_int min2_int max_two min_two max_three min_three max_four min_four
set_option linter.unusedVariables false
set_option linter.unusedSimpArgs false
def leadtrailref04_Size.l0 : Nat → Int → Int → List (S43) → Option (Int)
 | 0, _, _, _ => none
 | k + 1, x3, x5, x7 => if x5 < (x7.length : Int) then (if 0 ≤ x5 then (leadtrailref04_Size.l0 k (wrap64 (x3 + (wrap64 ((wrap64 (((rd_T43 x7 x5).f1) - ((rd_T43 x7 x5).f0))) + 1)))) (wrap64 (x5 + 1)) x7) else (none)) else (some x3)
def leadtrailref04_Size.f (k : Nat) (l0 : List (S43)) : Option (Int) := (leadtrailref04_set.f k l0).bind fun t263 => (leadtrailref04_Size.l0 k 0 0 t263)
set_option maxHeartbeats 8000000 in
set_option maxRecDepth 100000 in
theorem leadtrailref04_Size.calls (k : Nat) (A0 : Option Addr) (c0 : Nat) (l0 : List (S43)) (r : Int) (w : World) (hr0 : Kd.C k43 w A0 l0.length l0) (hc0 : l0.length ≤ c0) (h : leadtrailref04_Size.f k l0 = some r) :
 Calls Try.prog 27 #[.slice A0 l0.length c0] w fun e w' => e = .returned (.int .i64 r) ∧ Below w.heap.size w w' := by
 have HR0 := zk hr0; have HC0 := zk hc0; clear hr0 hc0; have HB := zk (Below.refl w.heap.size w); have H : ((leadtrailref04_set.f k l0).bind fun t263 => (leadtrailref04_Size.l0 k 0 0 t263)) = some r := h; clear h; replace H := Option.bind_eq_some_iff.mp H; obtain ⟨t263, A20, H⟩ := H; replace H : (leadtrailref04_Size.l0 k 0 0 t263) = some r := H; have A2 := zk A20; clear A20; have H' := zk H; clear H; go_enter Try.func27, Try.ntmps27
 go_wp2_with (first | (go_at_call 67; (with_reducible refine (leadtrailref04_set.calls k (fun k_ => k_ < w.heap.size) _ _ l0 t263 _ ?side1 A2.out).mono ?_); (case side1 => exact Kd.V_mk HC0.out (Kd.F_below (Kd.C_F k43_heap HR0.out) (zU HB.out))); rintro e w3 ⟨v264, rfl, ho0, hb⟩; have HO265 := zk (Kd.V_lower (Kd.V_mono (ok' := fun k_ => True) ho0 (fun k_ hk_ => trivial)) (below_size (zU HB.out))); replace HB := zk (below_step (zU HB.out) hb);  (try clear hb); (try clear hb2); (try clear hk); (try clear hi); (try clear ho0)))
 repeat (go_quiet (first | (go_at_call 67; (with_reducible refine (leadtrailref04_set.calls k (fun k_ => k_ < w.heap.size) _ _ l0 t263 _ ?side1 A2.out).mono ?_); (case side1 => exact Kd.V_mk HC0.out (Kd.F_below (Kd.C_F k43_heap HR0.out) (zU HB.out))); rintro e w3 ⟨v264, rfl, ho0, hb⟩; have HO265 := zk (Kd.V_lower (Kd.V_mono (ok' := fun k_ => True) ho0 (fun k_ hk_ => trivial)) (below_size (zU HB.out))); replace HB := zk (below_step (zU HB.out) hb);  (try clear hb); (try clear hb2); (try clear hk); (try clear hi); (try clear ho0))); try go_wp2_with (first | (go_at_call 67; (with_reducible refine (leadtrailref04_set.calls k (fun k_ => k_ < w.heap.size) _ _ l0 t263 _ ?side1 A2.out).mono ?_); (case side1 => exact Kd.V_mk HC0.out (Kd.F_below (Kd.C_F k43_heap HR0.out) (zU HB.out))); rintro e w3 ⟨v264, rfl, ho0, hb⟩; have HO265 := zk (Kd.V_lower (Kd.V_mono (ok' := fun k_ => True) ho0 (fun k_ hk_ => trivial)) (below_size (zU HB.out))); replace HB := zk (below_step (zU HB.out) hb);  (try clear hb); (try clear hb2); (try clear hk); (try clear hi); (try clear ho0))))
 go_loopg [3, 5] k (fun kq v3 v5 w' => ∃ (x3_1 : Int) (x5_1 : Int), v3 = .int .i64 x3_1 ∧ v5 = .int .i64 x5_1 ∧ Aside0 (leadtrailref04_Size.l0 kq x3_1 x5_1 t263 = some r) ∧ Aside0 (kq ≤ k) ∧ Aside0 (Kd.V k43 43 w' w.heap.size (fun _ => True) v264 t263) ∧ Aside0 (Below w.heap.size w w'))
 case atStart => exact ⟨(0), (0), zR, zR, H', ⟨Nat.le_refl _⟩, ⟨by (with_reducible repeat (first | apply Kd.V_alloc | apply Kd.V_drewN | apply Kd.V_drew)); exact HO265.out⟩, ⟨zU HB.out⟩⟩
 case round =>
  clear H'; (try clear c2); (try clear p2); obtain ⟨x3_1, x5_1, rfl, rfl, HA, HK1, HO_7, HB⟩ := hrel
  cases gk with
  | zero => exact absurd HA.out (by simp [leadtrailref04_Size.l0])
  | succ k1 =>
   have H := HA.out; clear HA; simp only [leadtrailref04_Size.l0] at H; by_cases c4 : x5_1 < (t263.length : Int)
   ·rw [if_pos c4] at H; have c4b0 : decide (x5_1 < (t263.length : Int)) = true := decide_eq_true c4; clear c4; by_cases c5 : 0 ≤ x5_1
    ·rw [if_pos c5] at H; have c5b0 : decide (0 ≤ x5_1) = true := decide_eq_true c5; clear c5; have H' := zk H; clear H; obtain ⟨Ao6, co6, eo6⟩ := Kd.V_slice HO_7.out; subst eo6; have p266 : 0 ≤ (x5_1 : Int) := zT; have q266 : x5_1 < (t263.length : Int) := zT; obtain ⟨ad266, e266, hx266_0, hx266_1⟩ := at_T43 (Kd.V_reads' HO_7.out).2.2 x5_1 p266 q266; cases e266; replace p266 := eq_true p266; replace q266 := eq_true q266; have p267 : 0 ≤ (x5_1 : Int) := zT; have q267 : x5_1 < (t263.length : Int) := zT; obtain ⟨ad267, e267, hx267_0, hx267_1⟩ := at_T43 (Kd.V_reads' HO_7.out).2.2 x5_1 p267 q267; obtain rfl : ad266 = ad267 := (by injection e267); replace p267 := eq_true p267; replace q267 := eq_true q267; go_wp2
     repeat (go_quiet (fail); try go_wp2)
     go_roundg k1
     case measure => have := HK1.out; omega
     case rel => exact ⟨(wrap64 (x3_1 + (wrap64 ((wrap64 (((rd_T43 t263 x5_1).f1) - ((rd_T43 t263 x5_1).f0))) + 1)))), (wrap64 (x5_1 + 1)), zR, zR, H', ⟨by have := HK1.out; omega⟩, ⟨by (with_reducible repeat (first | apply Kd.V_alloc | apply Kd.V_drewN | apply Kd.V_drew)); exact HO_7.out⟩, ⟨zU HB.out⟩⟩
    ·rw [if_neg c5] at H; exact absurd H (by simp)
   ·rw [if_neg c4] at H; have c4b0 : decide (x5_1 < (t263.length : Int)) = false := decide_eq_false c4; clear c4; obtain rfl := Option.some.inj H; obtain ⟨Ao7, co7, eo7⟩ := Kd.V_slice HO_7.out; subst eo7; go_wp2
    repeat (go_quiet (fail); try go_wp2)
    go_ret
    exact ⟨ze, zU HB.out⟩
mutual
def leadtrailref04_merged.l0 : Nat → List Int → List Int → List Int → Int → Int → Option (List Int)
 | 0, _, _, _, _, _ => none
 | k + 1, x0, x1, x5, x6, x7 => if x6 < (x0.length : Int) then (leadtrailref04_merged.j1 k x0 x1 x5 x6 x7 true) else (leadtrailref04_merged.j1 k x0 x1 x5 x6 x7 (decide (x7 < (x1.length : Int))))
def leadtrailref04_merged.j1 : Nat → List Int → List Int → List Int → Int → Int → Bool → Option (List Int)
 | 0, _, _, _, _, _, _ => none
 | k + 1, x0, x1, x5, x6, x7, x17 => if x17 = true then (if x7 = (x1.length : Int) then (if 0 ≤ x6 then (if x6 < (x0.length : Int) then (if x5.length < 17592186044416 then (leadtrailref04_merged.l0 k x0 x1 (x5 ++ [rd x0 x6]) (wrap64 (x6 + 1)) x7) else (none)) else (none)) else (none)) else (if x6 < (x0.length : Int) then (if 0 ≤ x6 then (if 0 ≤ x7 then (if x7 < (x1.length : Int) then (if (rd x0 x6) ≤ (rd x1 x7) then (if x5.length < 17592186044416 then (leadtrailref04_merged.l0 k x0 x1 (x5 ++ [rd x0 x6]) (wrap64 (x6 + 1)) x7) else (none)) else (if x5.length < 17592186044416 then (leadtrailref04_merged.l0 k x0 x1 (x5 ++ [rd x1 x7]) x6 (wrap64 (x7 + 1))) else (none))) else (none)) else (none)) else (none)) else (if 0 ≤ x7 then (if x7 < (x1.length : Int) then (if x5.length < 17592186044416 then (leadtrailref04_merged.l0 k x0 x1 (x5 ++ [rd x1 x7]) x6 (wrap64 (x7 + 1))) else (none)) else (none)) else (none)))) else (some x5)
end
def leadtrailref04_merged.f (k : Nat) (l0 : List Int) (l1 : List Int) : Option (List Int) := leadtrailref04_merged.l0 k l0 l1 ([] : List Int) 0 0
set_option maxHeartbeats 8000000 in
set_option maxRecDepth 100000 in
theorem leadtrailref04_merged.calls (k : Nat) (A0 : Option Addr) (c0 : Nat) (l0 : List Int) (A1 : Option Addr) (c1 : Nat) (l1 : List Int) (r : List Int) (w : World) (hr0 : Kd.C (Kd.int .i64) w A0 l0.length l0) (hc0 : l0.length ≤ c0) (hr1 : Kd.C (Kd.int .i64) w A1 l1.length l1) (hc1 : l1.length ≤ c1) (h : leadtrailref04_merged.f k l0 l1 = some r) :
 Calls Try.prog 115 #[.slice A0 l0.length c0, .slice A1 l1.length c1] w fun e w' => ∃ v0_ : Value, e = .returned (v0_) ∧ Kd.R (Kd.int .i64) 3 w' w.heap.size (fun _ => True) v0_ r ∧ Below w.heap.size w w' := by
 have HR0 := zk hr0; have HC0 := zk hc0; clear hr0 hc0; have HR1 := zk hr1; have HC1 := zk hc1; clear hr1 hc1; have HB := zk (Below.refl w.heap.size w); have H : (leadtrailref04_merged.l0 k l0 l1 ([] : List Int) 0 0) = some r := h; clear h; have H' := zk H; clear H; go_enter Try.func115, Try.ntmps115
 go_wp2
 repeat (go_quiet (fail); try go_wp2)
 go_loopg [5, 6, 7] k (fun kq v5 v6 v7 w' => ∃ (x5_1 : List Int) (x6_1 : Int) (x7_1 : Int), v6 = .int .i64 x6_1 ∧ v7 = .int .i64 x7_1 ∧ Aside0 (leadtrailref04_merged.l0 kq l0 l1 x5_1 x6_1 x7_1 = some r) ∧ Aside0 (kq ≤ k) ∧ Aside0 (Kd.R (Kd.int .i64) 3 w' w.heap.size (fun _ => True) v5 x5_1) ∧ Aside0 (Below w.heap.size w w'))
 case atStart => exact ⟨(([] : List Int)), (0), (0), zR, zR, H', ⟨Nat.le_refl _⟩, ⟨by first | exact Kd.R_nil _ _ _ _ _ | exact Kd.N_nil _ _ _ _ _ | exact Kd.V_nil _ _ _ _ _ | exact Kd.Q_nil _ _ _ _ _ | exact Kd.S_nil _ _ _ _ _⟩, ⟨zU HB.out⟩⟩
 case round =>
  clear H'; (try clear c1); (try clear p2); obtain ⟨x5_1, x6_1, x7_1, rfl, rfl, HA, HK1, HO_5, HB⟩ := hrel
  cases gk with
  | zero => exact absurd HA.out (by simp [leadtrailref04_merged.l0])
  | succ k1 =>
   have H := HA.out; clear HA; simp only [leadtrailref04_merged.l0] at H; have HC3 := zk H; clear H; go_upto_region 3 with (fail)
   repeat (go_quiet (fail); go_upto_region 3 with (fail))
   go_cut [17] (fun v17 wc => ∃ (kq : Nat) (x17_2 : Bool), v17 = .bool x17_2 ∧ Aside0 (leadtrailref04_merged.j1 kq l0 l1 x5_1 x6_1 x7_1 x17_2 = some r) ∧ Aside0 (kq ≤ k1) ∧ Aside0 (Kd.R (Kd.int .i64) 3 wc w.heap.size (fun _ => True) u5 x5_1) ∧ Aside0 (Below w.heap.size w wc))
   case first =>
    have H := HC3.out; clear HC3; by_cases c4 : x6_1 < (l0.length : Int)
    ·rw [if_pos c4] at H; have c4b0 : decide (x6_1 < (l0.length : Int)) = true := decide_eq_true c4; clear c4
     (first | rw [c4b0] | (simp only [i64_w, i32_w]; rw [c4b0]) | skip)
     have H' := zk H; clear H; go_wp2
     repeat (go_quiet (fail); try go_wp2)
     go_meet
     case rel => exact ⟨_, (true), zR, H', ⟨by have := HK1.out; first | omega | exact Nat.le_refl _⟩, ⟨by (with_reducible repeat (first | apply zA | apply zB | apply zC)); exact HO_5.out⟩, ⟨zU HB.out⟩⟩
    ·rw [if_neg c4] at H; have c4b0 : decide (x6_1 < (l0.length : Int)) = false := decide_eq_false c4; clear c4
     (first | rw [c4b0] | (simp only [i64_w, i32_w]; rw [c4b0]) | skip)
     have H' := zk H; clear H; go_wp2
     repeat (go_quiet (fail); try go_wp2)
     go_meet
     case rel => exact ⟨_, (decide (x7_1 < (l1.length : Int))), zR, H', ⟨by have := HK1.out; first | omega | exact Nat.le_refl _⟩, ⟨by (with_reducible repeat (first | apply zA | apply zB | apply zC)); exact HO_5.out⟩, ⟨zU HB.out⟩⟩
   case rest =>
    clear HC3; (try clear c1); (try clear p2); (try clear c4); (try clear c4b0); (try clear p2); obtain ⟨kq, x17_2, rfl, HA, HJ2, HO_5, HB⟩ := hcut; cases kq with
    | zero => exact absurd HA.out (by simp [leadtrailref04_merged.j1])
    | succ kj2 =>
     have H := HA.out; clear HA; simp only [leadtrailref04_merged.j1] at H; by_cases c5 : x17_2 = true
     ·subst c5; have H1 : (if x7_1 = (l1.length : Int) then (if 0 ≤ x6_1 then (if x6_1 < (l0.length : Int) then (if x5_1.length < 17592186044416 then (leadtrailref04_merged.l0 kj2 l0 l1 (x5_1 ++ [rd l0 x6_1]) (wrap64 (x6_1 + 1)) x7_1) else (none)) else (none)) else (none)) else (if x6_1 < (l0.length : Int) then (if 0 ≤ x6_1 then (if 0 ≤ x7_1 then (if x7_1 < (l1.length : Int) then (if (rd l0 x6_1) ≤ (rd l1 x7_1) then (if x5_1.length < 17592186044416 then (leadtrailref04_merged.l0 kj2 l0 l1 (x5_1 ++ [rd l0 x6_1]) (wrap64 (x6_1 + 1)) x7_1) else (none)) else (if x5_1.length < 17592186044416 then (leadtrailref04_merged.l0 kj2 l0 l1 (x5_1 ++ [rd l1 x7_1]) x6_1 (wrap64 (x7_1 + 1))) else (none))) else (none)) else (none)) else (none)) else (if 0 ≤ x7_1 then (if x7_1 < (l1.length : Int) then (if x5_1.length < 17592186044416 then (leadtrailref04_merged.l0 kj2 l0 l1 (x5_1 ++ [rd l1 x7_1]) x6_1 (wrap64 (x7_1 + 1))) else (none)) else (none)) else (none)))) = some r := by rw [if_pos rfl] at H; exact H
      clear H; have H := H1; clear H1; by_cases c6 : x7_1 = (l1.length : Int)
      ·rw [if_pos c6] at H; have c6b0 : (x7_1 == (l1.length : Int)) = true := beq_iff_eq.mpr c6; have c6b1 : (x7_1 != (l1.length : Int)) = false := bne_eq_false_iff_eq.mpr c6; clear c6; by_cases c7 : 0 ≤ x6_1
       ·rw [if_pos c7] at H; have c7b0 : decide (0 ≤ x6_1) = true := decide_eq_true c7; clear c7; by_cases c8 : x6_1 < (l0.length : Int)
        ·rw [if_pos c8] at H; have c8b0 : decide (x6_1 < (l0.length : Int)) = true := decide_eq_true c8; clear c8; by_cases c9 : x5_1.length < 17592186044416
         ·rw [if_pos c9] at H; have LMc9 := zk c9; clear c9; obtain ⟨y269, hy269⟩ : ∃ y_ : List Int, y_ = (x5_1 ++ [rd l0 x6_1]) := ⟨_, rfl⟩
          replace H : (leadtrailref04_merged.l0 kj2 l0 l1 y269 (wrap64 (x6_1 + 1)) x7_1) = some r := by first | (rw [hy269]; with_reducible exact H) | (have H2_ := (Option.bind_some _ _).symm.trans H; rw [hy269]; with_reducible exact H2_) | (have H2_ := (Option.bind_some _ _).symm.trans H; with_reducible exact H2_) | with_reducible exact H | (rw [hy269]; exact H) | exact H
          have Ny269 := zk hy269; clear hy269; have H' := zk H; clear H; have p268 : 0 ≤ (x6_1 : Int) := zT; have q268 : x6_1 < (l0.length : Int) := zT; obtain ⟨ad268, e268, hx268_0⟩ := Kd.at_int HR0.out x6_1 p268 q268; cases e268; replace hx268_0 := zcl HB.out hx268_0; replace p268 := eq_true p268; replace q268 := eq_true q268; go_wp2_with (first | ((with_reducible refine gate_builtin (b := .append) (xs := #[.tmp 39, .tmp 44]) rfl ?_); (try (refine gate_guard (by rfl) ?_; dsimp only)); at_builtin; refine Kd.R_append (Kd.int .i64) (w0 := w) w.heap.size rfl (.tmp 39) (.tmp 44) 53 3 (.int .i64 0) 8 rfl Try.underlying53 info3 rfl (by decide) (by omega) u5 x5_1 (rd l0 x6_1) [.int .i64 (rd l0 x6_1)] (fun _ => True) (fun _ => False) rfl rfl ?aP (fun _ hk => hk.elim) ?aF ?aO ?aB ?aS ?aL ?_; (case aP => exact rfl); (case aB => exact (zU HB.out)); (case aF => exact (fun _ _ => trivial)); (case aO => exact (zr HO_5.out)); (case aS => exact (below_size (zU HB.out))); (case aL => have := LMc9.out; omega); intro v270 w10 ho hb hg hat; rw [← Ny269.out] at ho; have n0_ := zk (hb); have n1_ := zk (ho); clear HB; clear HO_5; have HB := n0_; have HO271 := n1_; clear n0_ n1_; clear ho hb hg hat))
          repeat (go_quiet (first | ((with_reducible refine gate_builtin (b := .append) (xs := #[.tmp 39, .tmp 44]) rfl ?_); (try (refine gate_guard (by rfl) ?_; dsimp only)); at_builtin; refine Kd.R_append (Kd.int .i64) (w0 := w) w.heap.size rfl (.tmp 39) (.tmp 44) 53 3 (.int .i64 0) 8 rfl Try.underlying53 info3 rfl (by decide) (by omega) u5 x5_1 (rd l0 x6_1) [.int .i64 (rd l0 x6_1)] (fun _ => True) (fun _ => False) rfl rfl ?aP (fun _ hk => hk.elim) ?aF ?aO ?aB ?aS ?aL ?_; (case aP => exact rfl); (case aB => exact (zU HB.out)); (case aF => exact (fun _ _ => trivial)); (case aO => exact (zr HO_5.out)); (case aS => exact (below_size (zU HB.out))); (case aL => have := LMc9.out; omega); intro v270 w10 ho hb hg hat; rw [← Ny269.out] at ho; have n0_ := zk (hb); have n1_ := zk (ho); clear HB; clear HO_5; have HB := n0_; have HO271 := n1_; clear n0_ n1_; clear ho hb hg hat)); try go_wp2_with (first | ((with_reducible refine gate_builtin (b := .append) (xs := #[.tmp 39, .tmp 44]) rfl ?_); (try (refine gate_guard (by rfl) ?_; dsimp only)); at_builtin; refine Kd.R_append (Kd.int .i64) (w0 := w) w.heap.size rfl (.tmp 39) (.tmp 44) 53 3 (.int .i64 0) 8 rfl Try.underlying53 info3 rfl (by decide) (by omega) u5 x5_1 (rd l0 x6_1) [.int .i64 (rd l0 x6_1)] (fun _ => True) (fun _ => False) rfl rfl ?aP (fun _ hk => hk.elim) ?aF ?aO ?aB ?aS ?aL ?_; (case aP => exact rfl); (case aB => exact (zU HB.out)); (case aF => exact (fun _ _ => trivial)); (case aO => exact (zr HO_5.out)); (case aS => exact (below_size (zU HB.out))); (case aL => have := LMc9.out; omega); intro v270 w10 ho hb hg hat; rw [← Ny269.out] at ho; have n0_ := zk (hb); have n1_ := zk (ho); clear HB; clear HO_5; have HB := n0_; have HO271 := n1_; clear n0_ n1_; clear ho hb hg hat)))
          go_roundg kj2
          case measure => have := HK1.out; have := HJ2.out; omega
          case rel => exact ⟨(y269), (wrap64 (x6_1 + 1)), (x7_1), zR, zR, H', ⟨by have := HK1.out; have := HJ2.out; omega⟩, ⟨by (with_reducible repeat (first | apply zA | apply zB | apply zC)); exact HO271.out⟩, ⟨zU HB.out⟩⟩
         ·rw [if_neg c9] at H; exact absurd H (by simp)
        ·rw [if_neg c8] at H; exact absurd H (by simp)
       ·rw [if_neg c7] at H; exact absurd H (by simp)
      ·rw [if_neg c6] at H; have c6b0 : (x7_1 == (l1.length : Int)) = false := beq_eq_false_iff_ne.mpr c6; have c6b1 : (x7_1 != (l1.length : Int)) = true := bne_iff_ne.mpr c6; by_cases c11 : x6_1 < (l0.length : Int)
       ·rw [if_pos c11] at H; have c11b0 : decide (x6_1 < (l0.length : Int)) = true := decide_eq_true c11; clear c11; by_cases c12 : 0 ≤ x6_1
        ·rw [if_pos c12] at H; have c12b0 : decide (0 ≤ x6_1) = true := decide_eq_true c12; clear c12; by_cases c13 : 0 ≤ x7_1
         ·rw [if_pos c13] at H; have c13b0 : decide (0 ≤ x7_1) = true := decide_eq_true c13; clear c13; by_cases c14 : x7_1 < (l1.length : Int)
          ·rw [if_pos c14] at H; have c14b0 : decide (x7_1 < (l1.length : Int)) = true := decide_eq_true c14; clear c14; by_cases c15 : (rd l0 x6_1) ≤ (rd l1 x7_1)
           ·rw [if_pos c15] at H; have c15b0 : decide ((rd l0 x6_1) ≤ (rd l1 x7_1)) = true := decide_eq_true c15; clear c15; by_cases c16 : x5_1.length < 17592186044416
            ·rw [if_pos c16] at H; have LMc16 := zk c16; clear c16; obtain ⟨y275, hy275⟩ : ∃ y_ : List Int, y_ = (x5_1 ++ [rd l0 x6_1]) := ⟨_, rfl⟩
             replace H : (leadtrailref04_merged.l0 kj2 l0 l1 y275 (wrap64 (x6_1 + 1)) x7_1) = some r := by first | (rw [hy275]; with_reducible exact H) | (have H2_ := (Option.bind_some _ _).symm.trans H; rw [hy275]; with_reducible exact H2_) | (have H2_ := (Option.bind_some _ _).symm.trans H; with_reducible exact H2_) | with_reducible exact H | (rw [hy275]; exact H) | exact H
             have Ny275 := zk hy275; clear hy275; have H' := zk H; clear H; have p272 : 0 ≤ (x6_1 : Int) := zT; have q272 : x6_1 < (l0.length : Int) := zT; obtain ⟨ad272, e272, hx272_0⟩ := Kd.at_int HR0.out x6_1 p272 q272; cases e272; replace hx272_0 := zcl HB.out hx272_0; replace p272 := eq_true p272; replace q272 := eq_true q272; have p273 : 0 ≤ (x7_1 : Int) := zT; have q273 : x7_1 < (l1.length : Int) := zT; obtain ⟨ad273, e273, hx273_0⟩ := Kd.at_int HR1.out x7_1 p273 q273; cases e273; replace hx273_0 := zcl HB.out hx273_0; replace p273 := eq_true p273; replace q273 := eq_true q273; have p274 : 0 ≤ (x6_1 : Int) := zT; have q274 : x6_1 < (l0.length : Int) := zT; obtain ⟨ad274, e274, hx274_0⟩ := Kd.at_int HR0.out x6_1 p274 q274; obtain rfl : ad272 = ad274 := (by injection e274); replace hx274_0 := zcl HB.out hx274_0; replace p274 := eq_true p274; replace q274 := eq_true q274; go_wp2_with (first | ((with_reducible refine gate_builtin (b := .append) (xs := #[.tmp 39, .tmp 44]) rfl ?_); (try (refine gate_guard (by rfl) ?_; dsimp only)); at_builtin; refine Kd.R_append (Kd.int .i64) (w0 := w) w.heap.size rfl (.tmp 39) (.tmp 44) 53 3 (.int .i64 0) 8 rfl Try.underlying53 info3 rfl (by decide) (by omega) u5 x5_1 (rd l0 x6_1) [.int .i64 (rd l0 x6_1)] (fun _ => True) (fun _ => False) rfl rfl ?aP (fun _ hk => hk.elim) ?aF ?aO ?aB ?aS ?aL ?_; (case aP => exact rfl); (case aB => exact (zU HB.out)); (case aF => exact (fun _ _ => trivial)); (case aO => exact (zr HO_5.out)); (case aS => exact (below_size (zU HB.out))); (case aL => have := LMc16.out; omega); intro v276 w17 ho hb hg hat; rw [← Ny275.out] at ho; have n0_ := zk (hb); have n1_ := zk (ho); clear HB; clear HO_5; have HB := n0_; have HO277 := n1_; clear n0_ n1_; clear ho hb hg hat))
             repeat (go_quiet (first | ((with_reducible refine gate_builtin (b := .append) (xs := #[.tmp 39, .tmp 44]) rfl ?_); (try (refine gate_guard (by rfl) ?_; dsimp only)); at_builtin; refine Kd.R_append (Kd.int .i64) (w0 := w) w.heap.size rfl (.tmp 39) (.tmp 44) 53 3 (.int .i64 0) 8 rfl Try.underlying53 info3 rfl (by decide) (by omega) u5 x5_1 (rd l0 x6_1) [.int .i64 (rd l0 x6_1)] (fun _ => True) (fun _ => False) rfl rfl ?aP (fun _ hk => hk.elim) ?aF ?aO ?aB ?aS ?aL ?_; (case aP => exact rfl); (case aB => exact (zU HB.out)); (case aF => exact (fun _ _ => trivial)); (case aO => exact (zr HO_5.out)); (case aS => exact (below_size (zU HB.out))); (case aL => have := LMc16.out; omega); intro v276 w17 ho hb hg hat; rw [← Ny275.out] at ho; have n0_ := zk (hb); have n1_ := zk (ho); clear HB; clear HO_5; have HB := n0_; have HO277 := n1_; clear n0_ n1_; clear ho hb hg hat)); try go_wp2_with (first | ((with_reducible refine gate_builtin (b := .append) (xs := #[.tmp 39, .tmp 44]) rfl ?_); (try (refine gate_guard (by rfl) ?_; dsimp only)); at_builtin; refine Kd.R_append (Kd.int .i64) (w0 := w) w.heap.size rfl (.tmp 39) (.tmp 44) 53 3 (.int .i64 0) 8 rfl Try.underlying53 info3 rfl (by decide) (by omega) u5 x5_1 (rd l0 x6_1) [.int .i64 (rd l0 x6_1)] (fun _ => True) (fun _ => False) rfl rfl ?aP (fun _ hk => hk.elim) ?aF ?aO ?aB ?aS ?aL ?_; (case aP => exact rfl); (case aB => exact (zU HB.out)); (case aF => exact (fun _ _ => trivial)); (case aO => exact (zr HO_5.out)); (case aS => exact (below_size (zU HB.out))); (case aL => have := LMc16.out; omega); intro v276 w17 ho hb hg hat; rw [← Ny275.out] at ho; have n0_ := zk (hb); have n1_ := zk (ho); clear HB; clear HO_5; have HB := n0_; have HO277 := n1_; clear n0_ n1_; clear ho hb hg hat)))
             go_roundg kj2
             case measure => have := HK1.out; have := HJ2.out; omega
             case rel => exact ⟨(y275), (wrap64 (x6_1 + 1)), (x7_1), zR, zR, H', ⟨by have := HK1.out; have := HJ2.out; omega⟩, ⟨by (with_reducible repeat (first | apply zA | apply zB | apply zC)); exact HO277.out⟩, ⟨zU HB.out⟩⟩
            ·rw [if_neg c16] at H; exact absurd H (by simp)
           ·rw [if_neg c15] at H; have c15b0 : decide ((rd l0 x6_1) ≤ (rd l1 x7_1)) = false := decide_eq_false c15; clear c15; by_cases c18 : x5_1.length < 17592186044416
            ·rw [if_pos c18] at H; have LMc18 := zk c18; clear c18; obtain ⟨y279, hy279⟩ : ∃ y_ : List Int, y_ = (x5_1 ++ [rd l1 x7_1]) := ⟨_, rfl⟩
             replace H : (leadtrailref04_merged.l0 kj2 l0 l1 y279 x6_1 (wrap64 (x7_1 + 1))) = some r := by first | (rw [hy279]; with_reducible exact H) | (have H2_ := (Option.bind_some _ _).symm.trans H; rw [hy279]; with_reducible exact H2_) | (have H2_ := (Option.bind_some _ _).symm.trans H; with_reducible exact H2_) | with_reducible exact H | (rw [hy279]; exact H) | exact H
             have Ny279 := zk hy279; clear hy279; have H' := zk H; clear H; have p272 : 0 ≤ (x6_1 : Int) := zT; have q272 : x6_1 < (l0.length : Int) := zT; obtain ⟨ad272, e272, hx272_0⟩ := Kd.at_int HR0.out x6_1 p272 q272; cases e272; replace hx272_0 := zcl HB.out hx272_0; replace p272 := eq_true p272; replace q272 := eq_true q272; have p273 : 0 ≤ (x7_1 : Int) := zT; have q273 : x7_1 < (l1.length : Int) := zT; obtain ⟨ad273, e273, hx273_0⟩ := Kd.at_int HR1.out x7_1 p273 q273; cases e273; replace hx273_0 := zcl HB.out hx273_0; replace p273 := eq_true p273; replace q273 := eq_true q273; have p278 : 0 ≤ (x7_1 : Int) := zT; have q278 : x7_1 < (l1.length : Int) := zT; obtain ⟨ad278, e278, hx278_0⟩ := Kd.at_int HR1.out x7_1 p278 q278; obtain rfl : ad273 = ad278 := (by injection e278); replace hx278_0 := zcl HB.out hx278_0; replace p278 := eq_true p278; replace q278 := eq_true q278; go_wp2_with (first | ((with_reducible refine gate_builtin (b := .append) (xs := #[.tmp 48, .tmp 53]) rfl ?_); (try (refine gate_guard (by rfl) ?_; dsimp only)); at_builtin; refine Kd.R_append (Kd.int .i64) (w0 := w) w.heap.size rfl (.tmp 48) (.tmp 53) 53 3 (.int .i64 0) 8 rfl Try.underlying53 info3 rfl (by decide) (by omega) u5 x5_1 (rd l1 x7_1) [.int .i64 (rd l1 x7_1)] (fun _ => True) (fun _ => False) rfl rfl ?aP (fun _ hk => hk.elim) ?aF ?aO ?aB ?aS ?aL ?_; (case aP => exact rfl); (case aB => exact (zU HB.out)); (case aF => exact (fun _ _ => trivial)); (case aO => exact (zr HO_5.out)); (case aS => exact (below_size (zU HB.out))); (case aL => have := LMc18.out; omega); intro v280 w19 ho hb hg hat; rw [← Ny279.out] at ho; have n0_ := zk (hb); have n1_ := zk (ho); clear HB; clear HO_5; have HB := n0_; have HO281 := n1_; clear n0_ n1_; clear ho hb hg hat))
             repeat (go_quiet (first | ((with_reducible refine gate_builtin (b := .append) (xs := #[.tmp 48, .tmp 53]) rfl ?_); (try (refine gate_guard (by rfl) ?_; dsimp only)); at_builtin; refine Kd.R_append (Kd.int .i64) (w0 := w) w.heap.size rfl (.tmp 48) (.tmp 53) 53 3 (.int .i64 0) 8 rfl Try.underlying53 info3 rfl (by decide) (by omega) u5 x5_1 (rd l1 x7_1) [.int .i64 (rd l1 x7_1)] (fun _ => True) (fun _ => False) rfl rfl ?aP (fun _ hk => hk.elim) ?aF ?aO ?aB ?aS ?aL ?_; (case aP => exact rfl); (case aB => exact (zU HB.out)); (case aF => exact (fun _ _ => trivial)); (case aO => exact (zr HO_5.out)); (case aS => exact (below_size (zU HB.out))); (case aL => have := LMc18.out; omega); intro v280 w19 ho hb hg hat; rw [← Ny279.out] at ho; have n0_ := zk (hb); have n1_ := zk (ho); clear HB; clear HO_5; have HB := n0_; have HO281 := n1_; clear n0_ n1_; clear ho hb hg hat)); try go_wp2_with (first | ((with_reducible refine gate_builtin (b := .append) (xs := #[.tmp 48, .tmp 53]) rfl ?_); (try (refine gate_guard (by rfl) ?_; dsimp only)); at_builtin; refine Kd.R_append (Kd.int .i64) (w0 := w) w.heap.size rfl (.tmp 48) (.tmp 53) 53 3 (.int .i64 0) 8 rfl Try.underlying53 info3 rfl (by decide) (by omega) u5 x5_1 (rd l1 x7_1) [.int .i64 (rd l1 x7_1)] (fun _ => True) (fun _ => False) rfl rfl ?aP (fun _ hk => hk.elim) ?aF ?aO ?aB ?aS ?aL ?_; (case aP => exact rfl); (case aB => exact (zU HB.out)); (case aF => exact (fun _ _ => trivial)); (case aO => exact (zr HO_5.out)); (case aS => exact (below_size (zU HB.out))); (case aL => have := LMc18.out; omega); intro v280 w19 ho hb hg hat; rw [← Ny279.out] at ho; have n0_ := zk (hb); have n1_ := zk (ho); clear HB; clear HO_5; have HB := n0_; have HO281 := n1_; clear n0_ n1_; clear ho hb hg hat)))
             go_roundg kj2
             case measure => have := HK1.out; have := HJ2.out; omega
             case rel => exact ⟨(y279), (x6_1), (wrap64 (x7_1 + 1)), zR, zR, H', ⟨by have := HK1.out; have := HJ2.out; omega⟩, ⟨by (with_reducible repeat (first | apply zA | apply zB | apply zC)); exact HO281.out⟩, ⟨zU HB.out⟩⟩
            ·rw [if_neg c18] at H; exact absurd H (by simp)
          ·rw [if_neg c14] at H; exact absurd H (by simp)
         ·rw [if_neg c13] at H; exact absurd H (by simp)
        ·rw [if_neg c12] at H; exact absurd H (by simp)
       ·rw [if_neg c11] at H; have c11b0 : decide (x6_1 < (l0.length : Int)) = false := decide_eq_false c11; clear c11; by_cases c20 : 0 ≤ x7_1
        ·rw [if_pos c20] at H; have c20b0 : decide (0 ≤ x7_1) = true := decide_eq_true c20; clear c20; by_cases c21 : x7_1 < (l1.length : Int)
         ·rw [if_pos c21] at H; have c21b0 : decide (x7_1 < (l1.length : Int)) = true := decide_eq_true c21; clear c21; by_cases c22 : x5_1.length < 17592186044416
          ·rw [if_pos c22] at H; have LMc22 := zk c22; clear c22; obtain ⟨y283, hy283⟩ : ∃ y_ : List Int, y_ = (x5_1 ++ [rd l1 x7_1]) := ⟨_, rfl⟩
           replace H : (leadtrailref04_merged.l0 kj2 l0 l1 y283 x6_1 (wrap64 (x7_1 + 1))) = some r := by first | (rw [hy283]; with_reducible exact H) | (have H2_ := (Option.bind_some _ _).symm.trans H; rw [hy283]; with_reducible exact H2_) | (have H2_ := (Option.bind_some _ _).symm.trans H; with_reducible exact H2_) | with_reducible exact H | (rw [hy283]; exact H) | exact H
           have Ny283 := zk hy283; clear hy283; have H' := zk H; clear H; have p282 : 0 ≤ (x7_1 : Int) := zT; have q282 : x7_1 < (l1.length : Int) := zT; obtain ⟨ad282, e282, hx282_0⟩ := Kd.at_int HR1.out x7_1 p282 q282; cases e282; replace hx282_0 := zcl HB.out hx282_0; replace p282 := eq_true p282; replace q282 := eq_true q282; go_wp2_with (first | ((with_reducible refine gate_builtin (b := .append) (xs := #[.tmp 48, .tmp 53]) rfl ?_); (try (refine gate_guard (by rfl) ?_; dsimp only)); at_builtin; refine Kd.R_append (Kd.int .i64) (w0 := w) w.heap.size rfl (.tmp 48) (.tmp 53) 53 3 (.int .i64 0) 8 rfl Try.underlying53 info3 rfl (by decide) (by omega) u5 x5_1 (rd l1 x7_1) [.int .i64 (rd l1 x7_1)] (fun _ => True) (fun _ => False) rfl rfl ?aP (fun _ hk => hk.elim) ?aF ?aO ?aB ?aS ?aL ?_; (case aP => exact rfl); (case aB => exact (zU HB.out)); (case aF => exact (fun _ _ => trivial)); (case aO => exact (zr HO_5.out)); (case aS => exact (below_size (zU HB.out))); (case aL => have := LMc22.out; omega); intro v284 w23 ho hb hg hat; rw [← Ny283.out] at ho; have n0_ := zk (hb); have n1_ := zk (ho); clear HB; clear HO_5; have HB := n0_; have HO285 := n1_; clear n0_ n1_; clear ho hb hg hat))
           repeat (go_quiet (first | ((with_reducible refine gate_builtin (b := .append) (xs := #[.tmp 48, .tmp 53]) rfl ?_); (try (refine gate_guard (by rfl) ?_; dsimp only)); at_builtin; refine Kd.R_append (Kd.int .i64) (w0 := w) w.heap.size rfl (.tmp 48) (.tmp 53) 53 3 (.int .i64 0) 8 rfl Try.underlying53 info3 rfl (by decide) (by omega) u5 x5_1 (rd l1 x7_1) [.int .i64 (rd l1 x7_1)] (fun _ => True) (fun _ => False) rfl rfl ?aP (fun _ hk => hk.elim) ?aF ?aO ?aB ?aS ?aL ?_; (case aP => exact rfl); (case aB => exact (zU HB.out)); (case aF => exact (fun _ _ => trivial)); (case aO => exact (zr HO_5.out)); (case aS => exact (below_size (zU HB.out))); (case aL => have := LMc22.out; omega); intro v284 w23 ho hb hg hat; rw [← Ny283.out] at ho; have n0_ := zk (hb); have n1_ := zk (ho); clear HB; clear HO_5; have HB := n0_; have HO285 := n1_; clear n0_ n1_; clear ho hb hg hat)); try go_wp2_with (first | ((with_reducible refine gate_builtin (b := .append) (xs := #[.tmp 48, .tmp 53]) rfl ?_); (try (refine gate_guard (by rfl) ?_; dsimp only)); at_builtin; refine Kd.R_append (Kd.int .i64) (w0 := w) w.heap.size rfl (.tmp 48) (.tmp 53) 53 3 (.int .i64 0) 8 rfl Try.underlying53 info3 rfl (by decide) (by omega) u5 x5_1 (rd l1 x7_1) [.int .i64 (rd l1 x7_1)] (fun _ => True) (fun _ => False) rfl rfl ?aP (fun _ hk => hk.elim) ?aF ?aO ?aB ?aS ?aL ?_; (case aP => exact rfl); (case aB => exact (zU HB.out)); (case aF => exact (fun _ _ => trivial)); (case aO => exact (zr HO_5.out)); (case aS => exact (below_size (zU HB.out))); (case aL => have := LMc22.out; omega); intro v284 w23 ho hb hg hat; rw [← Ny283.out] at ho; have n0_ := zk (hb); have n1_ := zk (ho); clear HB; clear HO_5; have HB := n0_; have HO285 := n1_; clear n0_ n1_; clear ho hb hg hat)))
           go_roundg kj2
           case measure => have := HK1.out; have := HJ2.out; omega
           case rel => exact ⟨(y283), (x6_1), (wrap64 (x7_1 + 1)), zR, zR, H', ⟨by have := HK1.out; have := HJ2.out; omega⟩, ⟨by (with_reducible repeat (first | apply zA | apply zB | apply zC)); exact HO285.out⟩, ⟨zU HB.out⟩⟩
          ·rw [if_neg c22] at H; exact absurd H (by simp)
         ·rw [if_neg c21] at H; exact absurd H (by simp)
        ·rw [if_neg c20] at H; exact absurd H (by simp)
     ·replace c5 := Bool.eq_false_iff.mpr c5; subst c5; have H1 : (some x5_1) = some r := by rw [if_neg (show ¬ (false = true) by decide)] at H; exact H
      clear H; have H := H1; clear H1; obtain rfl := Option.some.inj H; go_wp2
      repeat (go_quiet (fail); try go_wp2)
      go_ret
      exact ⟨_, ze, by (with_reducible repeat (first | apply zA | apply zB | apply zC)); exact HO_5.out, zU HB.out⟩
def leadtrailref04_ends.l0 : Nat → List (S43) → List Int → Int → Option (List Int)
 | 0, _, _, _ => none
 | k + 1, x0, x3, x4 => if x4 < (x0.length : Int) then (if 0 ≤ x4 then ((some (([(rd_T43 x0 x4).f0, wrap64 (((rd_T43 x0 x4).f1) + 1)] : List Int) : List Int)).bind fun y288 => (if x3.length + y288.length < 17592186044416 then (leadtrailref04_ends.l0 k x0 (x3 ++ y288) (wrap64 (x4 + 1))) else (none))) else (none)) else (some x3)
def leadtrailref04_ends.f (k : Nat) (l0 : List (S43)) : Option (List Int) := leadtrailref04_ends.l0 k l0 ([] : List Int) 0
def leadtrailref04_ends.T5 : Bool × List (List Nat × List Nat) := (true, [([], []), ([], []), ([], []), ([1, 2], [1, 2]), ([3], [3]), ([4], [4]), ([], []), ([], []), ([6, 7], [6, 7]), ([8], [8]), ([9], [9]), ([10], [10]), ([5, 11], [5, 11]), ([0, 12], [0, 12]), ([13, 13, 0, 1, 2, 3, 4, 5, 6, 7, 8, 9, 10, 11, 12, 13], [0, 13])])
def leadtrailref04_ends.B5 : List Nat := [0, 0, 0, 6, 14, 30, 0, 0, 192, 448, 960, 1984, 4094, 8191, 16383]
theorem leadtrailref04_ends.tab5 : rtab .any (opsOf Try.f116 5) = leadtrailref04_ends.T5 := by kernel_rfl
theorem leadtrailref04_ends.bits5 : waitsOk leadtrailref04_ends.T5.2 leadtrailref04_ends.B5 = true := by kernel_rfl
set_option maxHeartbeats 8000000 in
set_option maxRecDepth 100000 in
theorem leadtrailref04_ends.calls (k : Nat) (A0 : Option Addr) (c0 : Nat) (l0 : List (S43)) (r : List Int) (w : World) (hr0 : Kd.C k43 w A0 l0.length l0) (hc0 : l0.length ≤ c0) (h : leadtrailref04_ends.f k l0 = some r) :
 Calls Try.prog 116 #[.slice A0 l0.length c0] w fun e w' => ∃ v0_ : Value, e = .returned (v0_) ∧ Kd.R (Kd.int .i64) 3 w' w.heap.size (fun _ => True) v0_ r ∧ Below w.heap.size w w' := by
 have HR0 := zk hr0; have HC0 := zk hc0; clear hr0 hc0; have HB := zk (Below.refl w.heap.size w); have H : (leadtrailref04_ends.l0 k l0 ([] : List Int) 0) = some r := h; clear h; have H' := zk H; clear H; go_enter Try.func116, Try.ntmps116
 go_wp2
 go_loopg [3, 4] k (fun kq v3 v4 w' => ∃ (x3_1 : List Int) (x4_1 : Int), v4 = .int .i64 x4_1 ∧ Aside0 (leadtrailref04_ends.l0 kq l0 x3_1 x4_1 = some r) ∧ Aside0 (kq ≤ k) ∧ Aside0 (Kd.R (Kd.int .i64) 3 w' w.heap.size (fun _ => True) v3 x3_1) ∧ Aside0 (Below w.heap.size w w'))
 case atStart => exact ⟨(([] : List Int)), (0), zR, H', ⟨Nat.le_refl _⟩, ⟨by first | exact Kd.R_nil _ _ _ _ _ | exact Kd.N_nil _ _ _ _ _ | exact Kd.V_nil _ _ _ _ _ | exact Kd.Q_nil _ _ _ _ _ | exact Kd.S_nil _ _ _ _ _⟩, ⟨zU HB.out⟩⟩
 case round =>
  clear H'; (try clear c1); obtain ⟨x3_1, x4_1, rfl, HA, HK1, HO_3, HB⟩ := hrel
  cases gk with
  | zero => exact absurd HA.out (by simp [leadtrailref04_ends.l0])
  | succ k1 =>
   have H := HA.out; clear HA; simp only [leadtrailref04_ends.l0] at H; by_cases c2 : x4_1 < (l0.length : Int)
   ·rw [if_pos c2] at H; have c2b0 : decide (x4_1 < (l0.length : Int)) = true := decide_eq_true c2; clear c2; by_cases c3 : 0 ≤ x4_1
    ·rw [if_pos c3] at H; have c3b0 : decide (0 ≤ x4_1) = true := decide_eq_true c3; clear c3; obtain ⟨y288, hy288⟩ : ∃ y_ : List Int, y_ = (([(rd_T43 l0 x4_1).f0, wrap64 (((rd_T43 l0 x4_1).f1) + 1)] : List Int)) := ⟨_, rfl⟩
     replace H : (if x3_1.length + y288.length < 17592186044416 then (leadtrailref04_ends.l0 k1 l0 (x3_1 ++ y288) (wrap64 (x4_1 + 1))) else (none)) = some r := by first | (rw [hy288]; with_reducible exact H) | (have H2_ := (Option.bind_some _ _).symm.trans H; rw [hy288]; with_reducible exact H2_) | (have H2_ := (Option.bind_some _ _).symm.trans H; with_reducible exact H2_) | with_reducible exact H | (rw [hy288]; exact H) | exact H
     have Ny288 := zk hy288; clear hy288; by_cases c4 : x3_1.length + y288.length < 17592186044416
     ·rw [if_pos c4] at H; have LMc4 := zk c4; clear c4; obtain ⟨y291, hy291⟩ : ∃ y_ : List Int, y_ = (x3_1 ++ y288) := ⟨_, rfl⟩
      replace H : (leadtrailref04_ends.l0 k1 l0 y291 (wrap64 (x4_1 + 1))) = some r := by first | (rw [hy291]; with_reducible exact H) | (have H2_ := (Option.bind_some _ _).symm.trans H; rw [hy291]; with_reducible exact H2_) | (have H2_ := (Option.bind_some _ _).symm.trans H; with_reducible exact H2_) | with_reducible exact H | (rw [hy291]; exact H) | exact H
      have Ny291 := zk hy291; clear hy291; have H' := zk H; clear H; try go_wp2
      have n0_ := zk (Kd.R_drew HO_3.out); have n1_ := zk (below_drew1 HB.out); clear HO_3; clear HB; have HO_3 := n0_; have HB := n1_; clear n0_ n1_; have p286 : 0 ≤ (x4_1 : Int) := zT; have q286 : x4_1 < (l0.length : Int) := zT; obtain ⟨ad286, e286, hx286_0, hx286_1⟩ := at_T43 HR0.out x4_1 p286 q286; have hw286_1 := hx286_1; have hw286_0 := hx286_0; cases e286; replace hx286_0 := zcl HB.out hx286_0; replace hx286_1 := zcl HB.out hx286_1; replace p286 := eq_true p286; replace q286 := eq_true q286; have p287 : 0 ≤ (x4_1 : Int) := zT; have q287 : x4_1 < (l0.length : Int) := zT; obtain ⟨ad287, e287, hx287_0, hx287_1⟩ := at_T43 HR0.out x4_1 p287 q287; have hw287_1 := hx287_1; have hw287_0 := hx287_0; obtain rfl : ad286 = ad287 := (by injection e287); replace hx287_0 := zcl HB.out hx287_0; replace hx287_1 := zcl HB.out hx287_1; replace p287 := eq_true p287; replace q287 := eq_true q287; refine start_ (n := 15) (S := fun w' => w'.cell? (ad286.add ((x4_1).toNat * 2)) = some (.int .i64 ((rd_T43 l0 x4_1).f0)) ∧ w'.cell? ⟨(ad286.add ((x4_1).toNat * 2)).block, (ad286.add ((x4_1).toNat * 2)).off + 1, none⟩ = some (.int .i64 ((rd_T43 l0 x4_1).f1)) ∧ w'.cell? (ad286.add ((x4_1).toNat * 2)) = some (.int .i64 ((rd_T43 l0 x4_1).f0)) ∧ w'.cell? ⟨(ad286.add ((x4_1).toNat * 2)).block, (ad286.add ((x4_1).toNat * 2)).off + 1, none⟩ = some (.int .i64 ((rd_T43 l0 x4_1).f1))) (ds := []) #[false, false, false, false, false, false, false, false, false, false, false, false, false, false, false] zz rfl rfl ⟨(zcl HB.out hw286_0), (zcl HB.out hw286_1), (zcl HB.out hw287_0), (zcl HB.out hw287_1)⟩ (fun hHeld => ?_); refine with_tabW leadtrailref04_ends.tab5 leadtrailref04_ends.bits5 (fun HT_ HW_ => ?_); generalize wr.drew = w5 at HO_3 HB hx286_0 hx286_1 hx287_0 hx287_1 hHeld ⊢; refine zp 0 (some 11) (v := ?_) (a' := ?_) (bz 15 1) rfl rfl HT_.out zz zQ ?_ ?_ ?_; rotate_left
      ·intro w'; go_simp; with_reducible rfl
      rotate_left
      ·simp only [Act.put, zv, i64_w, i32_w]; rfl
      refine zp 1 (some 12) (v := ?_) (a' := ?_) (bz 15 3) rfl rfl HT_.out zz zQ ?_ ?_ ?_; rotate_left
      ·intro w'; go_simp; with_reducible rfl
      rotate_left
      ·simp only [Act.put, zv, i64_w, i32_w]; rfl
      refine zp 2 (some 13) (v := ?_) (a' := ?_) (bz 15 7) rfl rfl HT_.out zz zQ ?_ ?_ ?_; rotate_left
      ·intro w'; go_simp; with_reducible rfl
      rotate_left
      ·simp only [Act.put, zv, i64_w, i32_w]; rfl
      refine zp 3 (some 14) (v := ?_) (a' := ?_) (bz 15 15) rfl rfl HT_.out zz zQ ?_ ?_ ?_; rotate_left
      ·intro w'; go_simp; with_reducible rfl
      rotate_left
      ·simp only [Act.put, zv, i64_w, i32_w]; rfl
      refine zp 4 (some 15) (v := ?_) (a' := ?_) (bz 15 31) rfl rfl HT_.out zz zQ ?_ ?_ ?_; rotate_left
      ·intro w'; go_simp; with_reducible rfl
      rotate_left
      ·simp only [Act.put, zv, i64_w, i32_w]; rfl
      refine zp 6 (some 17) (v := ?_) (a' := ?_) (bz 15 95) rfl rfl HT_.out zz zQ ?_ ?_ ?_; rotate_left
      ·intro w'; go_simp; with_reducible rfl
      rotate_left
      ·simp only [Act.put, zv, i64_w, i32_w]; rfl
      refine zp 7 (some 18) (v := ?_) (a' := ?_) (bz 15 223) rfl rfl HT_.out zz zQ ?_ ?_ ?_; rotate_left
      ·intro w'; go_simp; with_reducible rfl
      rotate_left
      ·simp only [Act.put, zv, i64_w, i32_w]; rfl
      refine zp 8 (some 19) (v := ?_) (a' := ?_) (bz 15 479) rfl rfl HT_.out zz zQ ?_ ?_ ?_; rotate_left
      ·intro w'; go_simp; with_reducible rfl
      rotate_left
      ·simp only [Act.put, zv, i64_w, i32_w]; rfl
      refine zp 9 (some 20) (v := ?_) (a' := ?_) (bz 15 991) rfl rfl HT_.out zz zQ ?_ ?_ ?_; rotate_left
      ·intro w'; go_simp; with_reducible rfl
      rotate_left
      ·simp only [Act.put, zv, i64_w, i32_w]; rfl
      refine take_ (i := 5) (N := some 16) (v := ?_) (a' := ?_) (bz 15 1023) rfl rfl (take_ofW HT_.out HW_.out zz) zQ (Or.inl ⟨by rfl, ?_⟩) hHeld ?_ ?_; rotate_left
      ·rintro w' ⟨s0, s1, s2, s3⟩; go_simp; with_reducible rfl
      rotate_left
      ·simp only [Act.put, zv, i64_w, i32_w]; rfl
      refine take_ (i := 10) (N := some 21) (v := ?_) (a' := ?_) (bz 15 2047) rfl rfl (take_ofW HT_.out HW_.out zz) zQ (Or.inl ⟨by rfl, ?_⟩) hHeld ?_ ?_; rotate_left
      ·rintro w' ⟨s0, s1, s2, s3⟩; go_simp; with_reducible rfl
      rotate_left
      ·simp only [Act.put, zv, i64_w, i32_w]; rfl
      refine zp 11 (some 22) (v := ?_) (a' := ?_) (bz 15 4095) rfl rfl HT_.out zz zQ ?_ ?_ ?_; rotate_left
      ·intro w'; go_simp; with_reducible rfl
      rotate_left
      ·simp only [Act.put, zv, i64_w, i32_w]; rfl
      refine one_ (i := 12) (N := some 23) (bz 15 8191) rfl rfl (one_of HT_.out zz) (by decide) (fun K hK => ?_); refine Kd.R_lit_step (Kd.int .i64) _ 3 ?hg (N := 23) ?hd (xs := ([(rd_T43 l0 x4_1).f0, wrap64 (((rd_T43 l0 x4_1).f1) + 1)] : List Int)) (inner := [.int .i64 ((rd_T43 l0 x4_1).f0), .int .i64 (wrap64 (((rd_T43 l0 x4_1).f1) + 1))]) (ok := fun _ => True) (okp := fun _ => True) ?hr ?hp (fun _ hk => hk) trivial (Below.refl _ _) (Nat.le_refl _) (by simp) ?_; (case hd => rfl); (case hg => rfl); (case hr => first | (go_simp; done) | (go_simp; rfl)); (case hp => exact (Reps.one (show Kd.M (Kd.int .i64) _ _ _ ((rd_T43 l0 x4_1).f0) [.int .i64 ((rd_T43 l0 x4_1).f0)] from rfl) (Reps.one (show Kd.M (Kd.int .i64) _ _ _ (wrap64 (((rd_T43 l0 x4_1).f1) + 1)) [.int .i64 (wrap64 (((rd_T43 l0 x4_1).f1) + 1))] from rfl) (Reps.none _ _)))); intro v289 w6 ho7 hb hg_ hnew_; clear hg_ hnew_
      (first | rw [← Ny288.out] at ho7 | (simp only [Int.reduceToNat] at ho7; rw [← Ny288.out] at ho7))
      have n0_ := zk (Kd.R_elder' (zr HO_3.out) (Kd.R_base ho7) hb); have n1_ := zk (Kd.R_lower (Kd.R_new' ho7 (Kd.R_lt (zr HO_3.out))) (below_size (zU HB.out))); have n2_ := zk (below_step (zU HB.out) hb); clear HO_3; clear HB; have HO_3 := n0_; have HO290 := n1_; have HB := n2_; clear n0_ n1_ n2_; clear hb ho7; obtain ⟨Ao9, co9, eo9⟩ := Kd.R_slice HO290.out
      (first | subst eo9 | (injection eo9 with f1_ f2_ f3_; have f4_ := f1_.symm; have f5_ := f3_.symm; clear f1_ f2_ f3_; subst f4_; subst f5_))
      refine hK.out _ _ ⟨(zcl HB.out hw286_0), (zcl HB.out hw286_1), (zcl HB.out hw287_0), (zcl HB.out hw287_1)⟩ (fun hHeld => ?_); clear hK K; refine norm_ (a' := ?_) ?_ ?_; rotate_left
      ·show Act.put _ (some 23) _ = _; simp only [Act.put, zv, i64_w, i32_w]; rfl
      refine one_ (i := 13) (N := some 24) (bz 15 16383) rfl rfl (one_of HT_.out zz) (by decide) (fun K hK => ?_); refine Kd.R_append_rows_step (Kd.int .i64) (w0 := w) w.heap.size (by rfl) (.tmp 11) (.tmp 23) 53 3 (.int .i64 0) 8 rfl Try.underlying53 info3 rfl (by decide) (by omega) u3 x3_1 y288 _ _ _ (fun k_ => some k_ ≠ (.slice Ao9 y288.length co9 : Value).ownBlock) (fun _ => False) rfl rfl ?aO ?aR (fun _ _ h => h) (fun _ h => h.elim) ?aF ?aB ?aS ?aL ?_; (case aR => exact zc (Kd.R_reads' HO290.out).2.2)
      (case aB => exact (zU HB.out))
      (case aF => exact (fun k_ hk => Kd.fresh' (Kd.R_lt (zr HO290.out)) k_ hk))
      (case aO => exact (by (with_reducible repeat (first | apply zA | apply zB | apply zC)); exact Kd.R_mono HO_3.out (fun _ hk => hk.2)))
      (case aS => exact (below_size (zU HB.out)))
      (case aL => have := LMc4.out; omega)
      intro v292 w8 ho hb hg hat; rw [← Ny291.out] at ho; have n0_ := zk (Kd.R_after (ok := (fun _ => True)) (zr HO290.out) hg hat); have n1_ := zk (hb); have n2_ := zk (ho); clear HO290; clear HB; clear HO_3; have HO290 := n0_; have HB := n1_; have HO293 := n2_; clear n0_ n1_ n2_; clear ho hb hg hat; refine hK.out _ _ ⟨(zcl HB.out hw286_0), (zcl HB.out hw286_1), (zcl HB.out hw287_0), (zcl HB.out hw287_1)⟩ (fun hHeld => ?_); clear hK K; refine norm_ (a' := ?_) ?_ ?_; rotate_left
      ·show Act.put _ (some 24) _ = _; simp only [Act.put, zv, i64_w, i32_w]; rfl
      refine zp 14 (some 3) (v := ?_) (a' := ?_) (bz 15 32767) rfl rfl HT_.out zz zQ ?_ ?_ ?_; rotate_left
      ·intro w'; go_simp; with_reducible rfl
      rotate_left
      ·simp only [Act.put, zv, i64_w, i32_w]; rfl
      refine done_ (done_of HT_.out zz) ?_; try go_wp2
      go_roundg k1
      case measure => have := HK1.out; omega
      case rel => exact ⟨(y291), (wrap64 (x4_1 + 1)), zR, H', ⟨by have := HK1.out; omega⟩, ⟨by (with_reducible repeat (first | apply zA | apply zB | apply zC)); exact Kd.R_mono HO293.out (fun _ hk => trivial)⟩, ⟨zU HB.out⟩⟩
     ·rw [if_neg c4] at H; exact absurd H (by simp)
    ·rw [if_neg c3] at H; exact absurd H (by simp)
   ·rw [if_neg c2] at H; have c2b0 : decide (x4_1 < (l0.length : Int)) = false := decide_eq_false c2; clear c2; obtain rfl := Option.some.inj H; go_wp2
    go_ret
    exact ⟨_, ze, by (with_reducible repeat (first | apply zA | apply zB | apply zC)); exact HO_3.out, zU HB.out⟩
end Go.Proofs.Ytoljcfocgaonpaa.I
