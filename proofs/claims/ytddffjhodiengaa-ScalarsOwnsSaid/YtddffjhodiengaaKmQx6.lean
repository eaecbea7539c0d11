/- Words and walks of this claim, of the text Qx6. -/
import Derived.Test.YtddffjhodiengaaKmQx0
import Derived.Test.YtddffjhodiengaaKmQx3
import Derived.Test.YtddffjhodiengaaKmQx5
namespace Go.Proofs.Ytddffjhodiengaa.Q
open Go.RowKit Go.Proofs.YtddffjhodiengaaW.PrintWords Go.Proofs.YtddffjhodiengaaW.PrintLast Go.Proofs.YtddffjhodiengaaW.PrintMore
attribute [local go_sem] max2_int min2_int max_two min_two max_three min_three max_four min_four
set_option linter.unusedVariables false
set_option linter.unusedSimpArgs false
def scalars_Not.f (k : Nat) (l0 : List (S56)) : Option ((List (S56))) := (scalars_set.f k l0).bind fun t266 => ((sets_Not.f k t266 1073741823).bind fun t269 => ((scalars_back.f k t269).bind fun t272 => (some t272)))
set_option maxHeartbeats 8000000 in
set_option maxRecDepth 100000 in
theorem scalars_Not.calls (k : Nat) (A0 : Option Addr) (c0 : Nat) (l0 : List (S56)) (r : List (S56)) (w : World) (hr0 : Kd.C k56 w A0 l0.length l0) (hc0 : l0.length ≤ c0) (h : scalars_Not.f k l0 = some r) :
    Calls Try.prog 64 #[.slice A0 l0.length c0] w fun e w' => ∃ v0_ : Value, e = .returned (v0_) ∧ Kd.R k56 56 w' w.heap.size (fun _ => True) v0_ r ∧ Below w.heap.size w w' := by
  have HR0 := Aside0.mk hr0
  have HC0 := Aside0.mk hc0
  clear hr0 hc0
  have HB := Aside0.mk (Below.refl w.heap.size w)
  have H : ((scalars_set.f k l0).bind fun t266 => ((sets_Not.f k t266 1073741823).bind fun t269 => ((scalars_back.f k t269).bind fun t272 => (some t272)))) = some r := h
  clear h
  replace H := Option.bind_eq_some_iff.mp H
  obtain ⟨t266, A20, H⟩ := H
  replace H : ((sets_Not.f k t266 1073741823).bind fun t269 => ((scalars_back.f k t269).bind fun t272 => (some t272))) = some r := H
  have A2 := Aside0.mk A20
  clear A20
  replace H := Option.bind_eq_some_iff.mp H
  obtain ⟨t269, A30, H⟩ := H
  replace H : ((scalars_back.f k t269).bind fun t272 => (some t272)) = some r := H
  have A3 := Aside0.mk A30
  clear A30
  replace H := Option.bind_eq_some_iff.mp H
  obtain ⟨t272, A40, H⟩ := H
  replace H : (some t272) = some r := H
  have A4 := Aside0.mk A40
  clear A40
  obtain rfl := Option.some.inj H
  go_enter Try.func64, Try.ntmps64
  go_wp2_with (first | ((with_reducible refine gate_callee (f := 78) rfl ?_); refine goesL_ (some 4) rfl rfl Try.func78 (by kernel_rfl) rfl #[.slice A0 l0.length c0] rfl (by (try simp only [List.map_toArray, List.map_cons, List.map_nil]); first | done | rfl | (simp only [List.length_drop, List.length_take]; rfl)) ?_; (with_reducible refine (scalars_set.calls k _ _ l0 t266 _ ?side1 ?side2 A2.out).mono ?_); (case side1 => repeat (first | exact HR0.out | (with_reducible refine Kd.C_alloc ?_ _) | (with_reducible refine Kd.C_drewN ?_ _) | (with_reducible refine Kd.C_drew ?_))); (case side2 => exact HC0.out); rintro e w5 ⟨v267, rfl, ho0, hb⟩; refine ⟨_, rfl, ?_⟩; have n0_ := Aside0.mk (Kd.R_lower ho0 (below_size (by repeat (first | (with_reducible first | exact HB.out | apply below_alloc | apply pw_below_drewN | apply below_drew1) | exact HB.out)))); have n1_ := Aside0.mk (below_step (by repeat (first | (with_reducible first | exact HB.out | apply below_alloc | apply pw_below_drewN | apply below_drew1) | exact HB.out)) hb); clear HB; have HO268 := n0_; have HB := n1_; clear n0_ n1_; (try clear hb); (try clear hb2); (try clear hk); (try clear hi); (try clear ho0); obtain ⟨Ao6, co6, eo6⟩ := Kd.R_slice HO268.out; subst eo6) | ((with_reducible refine gate_callee (f := 85) rfl ?_); refine goesL_ (some 5) rfl rfl Try.func85 (by kernel_rfl) rfl #[.slice Ao6 t266.length co6, .int .i64 1073741823] rfl (by (try simp only [List.map_toArray, List.map_cons, List.map_nil]); first | done | rfl | (simp only [List.length_drop, List.length_take]; rfl)) ?_; (with_reducible refine (sets_Not.calls k _ _ t266 1073741823 t269 _ ?side1 ?side2 A3.out).mono ?_); (case side1 => repeat (first | exact (Kd.R_reads' HO268.out).2.2 | (with_reducible refine Kd.C_alloc ?_ _) | (with_reducible refine Kd.C_drewN ?_ _) | (with_reducible refine Kd.C_drew ?_))); (case side2 => exact (Kd.R_reads' HO268.out).2.1); rintro e w7 ⟨v270, rfl, ho0, hb⟩; refine ⟨_, rfl, ?_⟩; have n0_ := Aside0.mk (Kd.R_elder' (by (with_reducible repeat (first | apply Kd.R_alloc | apply Kd.R_drewN | apply Kd.R_drew)); exact HO268.out) (Kd.R_base ho0) hb); have n1_ := Aside0.mk (Kd.R_lower (Kd.R_new' ho0 (Kd.R_lt (by (with_reducible repeat (first | apply Kd.R_alloc | apply Kd.R_drewN | apply Kd.R_drew)); exact HO268.out))) (below_size (by repeat (first | (with_reducible first | exact HB.out | apply below_alloc | apply pw_below_drewN | apply below_drew1) | exact HB.out)))); have n2_ := Aside0.mk (below_step (by repeat (first | (with_reducible first | exact HB.out | apply below_alloc | apply pw_below_drewN | apply below_drew1) | exact HB.out)) hb); clear HO268; clear HB; have HO268 := n0_; have HO271 := n1_; have HB := n2_; clear n0_ n1_ n2_; (try clear hb); (try clear hb2); (try clear hk); (try clear hi); (try clear ho0); obtain ⟨Ao8, co8, eo8⟩ := Kd.R_slice HO271.out; subst eo8) | ((with_reducible refine gate_callee (f := 72) rfl ?_); refine goesL_ (some 6) rfl rfl Try.func72 (by kernel_rfl) rfl #[.slice Ao8 t269.length co8] rfl (by (try simp only [List.map_toArray, List.map_cons, List.map_nil]); first | done | rfl | (simp only [List.length_drop, List.length_take]; rfl)) ?_; (with_reducible refine (scalars_back.calls k _ _ t269 t272 _ ?side1 ?side2 A4.out).mono ?_); (case side1 => repeat (first | exact (Kd.R_reads' HO271.out).2.2 | (with_reducible refine Kd.C_alloc ?_ _) | (with_reducible refine Kd.C_drewN ?_ _) | (with_reducible refine Kd.C_drew ?_))); (case side2 => exact (Kd.R_reads' HO271.out).2.1); rintro e w9 ⟨v273, rfl, ho0, hb⟩; refine ⟨_, rfl, ?_⟩; have n0_ := Aside0.mk (Kd.R_below (by (with_reducible repeat (first | apply Kd.R_alloc | apply Kd.R_drewN | apply Kd.R_drew)); exact HO268.out) hb); have n1_ := Aside0.mk (Kd.R_below (by (with_reducible repeat (first | apply Kd.R_alloc | apply Kd.R_drewN | apply Kd.R_drew)); exact HO271.out) hb); have n2_ := Aside0.mk (Kd.R_lower ho0 (below_size (by repeat (first | (with_reducible first | exact HB.out | apply below_alloc | apply pw_below_drewN | apply below_drew1) | exact HB.out)))); have n3_ := Aside0.mk (below_step (by repeat (first | (with_reducible first | exact HB.out | apply below_alloc | apply pw_below_drewN | apply below_drew1) | exact HB.out)) hb); clear HO268; clear HO271; clear HB; have HO268 := n0_; have HO271 := n1_; have HO274 := n2_; have HB := n3_; clear n0_ n1_ n2_ n3_; (try clear hb); (try clear hb2); (try clear hk); (try clear hi); (try clear ho0)))
  go_ret
  exact ⟨_, by first | rfl | (simp [errW_none, errW_some] <;> rfl) | (simp [*, errW_none, errW_some] <;> rfl), by (with_reducible repeat (first | apply Kd.R_alloc | apply Kd.R_drewN | apply Kd.R_drew)); exact HO274.out, by repeat (first | (with_reducible first | exact HB.out | apply below_alloc | apply pw_below_drewN | apply below_drew1) | exact HB.out)⟩
def ownOwnRanges.m1 (j : Nat) : List Value := [.int .i64 (-(j : Int) - 5), .int .i64 0]
def ownOwnRanges.m2 (j : Nat) : List Value := [.int .i64 ((j : Int) + 1), .int .i64 0]
set_option maxHeartbeats 8000000 in
set_option maxRecDepth 100000 in
theorem ownOwnRanges.calls (P : Nat → Prop) (lv : Value) (vs : List Value) (ln : Nat → Nat) (C0 : Nat → List Value) (w0 w : World) (hap : ApartV vs) (hP : ∀ (j : Nat) (v : Value), vs[j]? = some v → ∀ k, v.ownBlock = some k → P k)
    (hst : OwnSt w0.heap.size 56 2 32 w0 w P lv vs ln C0 w) (hb0 : w0.heap.size ≤ w.heap.size) (hn : vs.length ≤ 5864062014804) (hln : ∀ j, ln j ≤ 8796093022184) :
    Calls Try.prog 66 #[lv] w fun e w' => e = .returned (.bool true) ∧ Below w0.heap.size w0 w' ∧ Kept w w' (fun k_ => P k_) := by
  obtain ⟨Al, cl, rfl⟩ := own_slice hst.outer
  have HST := Aside0.mk hst
  have HAP := Aside0.mk hap
  have HPP := Aside0.mk hP
  have HN0 := Aside0.mk hn
  have HLN := Aside0.mk hln
  have HB0 := Aside0.mk hb0
  clear hst hap hP hn hln hb0
  go_enter Try.func66, Try.ntmps66
  go_wp2
  go_loopg [15] (vs.length + 1) (fun kq v15 w' => ∃ k : Nat, v15 = .int .i64 (k : Int) ∧ Aside0 (k + kq = vs.length + 1 ∧ k ≤ vs.length) ∧ Aside0 (OwnSt w0.heap.size 56 2 32 w0 w P (.slice Al vs.length cl) vs ln (fun j => if j < k then rep (ln j) (ownOwnRanges.m1 j) else C0 j) w'))
  case atStart => exact ⟨0, rfl, ⟨by omega, by omega⟩, ⟨HST.out.congr (fun j _ => by simp)⟩⟩
  case round =>
    obtain ⟨k, rfl, HN, HS⟩ := hrel
    have hN := HN.out
    cases gk with
    | zero => exact absurd hN (by omega)
    | succ ko =>
    by_cases c : k < vs.length
    · have c_ := Aside0.mk c
      have HN0' := HN0.out
      have cb : decide ((k : Int) < (vs.length : Int)) = true := decide_eq_true (by omega)
      have cb2 : decide (k < vs.length) = true := decide_eq_true c
      have p : (0 ≤ (k : Int)) = True := eq_true (by omega)
      have q : ((k : Int) < (vs.length : Int)) = True := eq_true (by omega)
      obtain ⟨v, hv⟩ : ∃ v, vs[k]? = some v := ⟨_, List.getElem?_eq_getElem c⟩
      obtain ⟨gl, cl', el, _⟩ := HS.out.outer.form (by omega)
      simp only [Value.slice.injEq] at el
      obtain ⟨rfl, _, rfl⟩ := el
      have hx := (HS.out.outer.cellAt k (by omega)).trans hv
      obtain ⟨Av, cv, rfl⟩ := own_slice (HS.out.rows k v hv)
      have HV := Aside0.mk hv
      have hk5 : (k : Int) ≤ 5864062014804 := by omega
      have hlk := HLN.out k
      have hlk' : (ln k : Int) ≤ 8796093022184 := by omega
      clear hv c hN HN0'
      go_wp2
      clear hx cb cb2 p q
      go_loopg [22] (ln k + 1) (fun kq v22 w' => ∃ i : Nat, v22 = .int .i64 (i : Int) ∧ Aside0 (i + kq = ln k + 1 ∧ i ≤ ln k) ∧ Aside0 (OwnSt w0.heap.size 56 2 32 w0 w P (.slice (some ⟨gl, 0, none⟩) vs.length cl) vs ln (fun j => if j < k then rep (ln j) (ownOwnRanges.m1 j) else if j = k then rep i (ownOwnRanges.m1 k) ++ (C0 k).drop (i * 2) else C0 j) w'))
      case atStart => exact ⟨0, rfl, ⟨by omega, by omega⟩, ⟨HS.out.congr (fun j _ => by
        by_cases h1 : j < k
        · simp [h1]
        · by_cases h2 : j = k
          · subst h2; simp [rep]
          · simp [h1, h2])⟩⟩
      case round =>
        clear HS
        obtain ⟨i, rfl, HI, HS⟩ := hrel
        have hI := HI.out
        cases gk with
        | zero => exact absurd hI (by omega)
        | succ ki =>
        by_cases d : i < ln k
        · have d_ := Aside0.mk d
          have db : decide ((i : Int) < (ln k : Int)) = true := decide_eq_true (by omega)
          have db2 : decide (i < ln k) = true := decide_eq_true d
          have p : (0 ≤ (i : Int)) = True := eq_true (by omega)
          have q : ((i : Int) < (ln k : Int)) = True := eq_true (by omega)
          have hrow := HS.out.rows k _ HV.out
          obtain ⟨gv, cv', ev, _⟩ := hrow.form (by omega)
          simp only [Value.slice.injEq] at ev
          obtain ⟨rfl, _, rfl⟩ := ev
          have hl := (HST.out.rows k _ HV.out).1
          obtain ⟨x, y, t, hxy⟩ : ∃ x y t, (C0 k).drop (i * 2) = x :: y :: t := by
            have h1 : 2 ≤ ((C0 k).drop (i * 2)).length := by rw [List.length_drop, hl]; omega
            match (C0 k).drop (i * 2), h1 with
            | x :: y :: t, _ => exact ⟨x, y, t, rfl⟩
          have ht : t = (C0 k).drop ((i + 1) * 2) := by
            rw [show (i + 1) * 2 = i * 2 + 2 by omega, ← List.drop_drop, hxy]; rfl
          simp only [Nat.lt_irrefl, if_false, if_true, hxy] at hrow
          have hr : (rep i (ownOwnRanges.m1 k)).length = i * 2 := rep_len _ _
          have hx0 : wr.cell? ⟨gv, i * 2, none⟩ = some x := by
            rw [hrow.cellAt (i * 2) (by omega), List.getElem?_append_right (by omega), hr, Nat.sub_self]; rfl
          have hx1 : wr.cell? ⟨gv, i * 2 + 1, none⟩ = some y := by
            rw [hrow.cellAt (i * 2 + 1) (by omega), List.getElem?_append_right (by omega), hr, show i * 2 + 1 - i * 2 = 1 by omega]; rfl
          have hf0 := hrow.frozenAt (i * 2)
          have hf1 := hrow.frozenAt (i * 2 + 1)
          have HXY := Aside0.mk hxy
          have HT := Aside0.mk ht
          clear hxy ht hrow hr hl d hI
          go_wp2
          have hI := HI.out
          have d := d_.out
          have h1 := (HS.out.put (by decide) HAP.out HPP.out HV.out (i * 2) (.int .i64 (-(k : Int) - 5))).put (by decide) HAP.out HPP.out HV.out (i * 2 + 1) (.int .i64 0)
          go_roundg ki
          case measure => omega
          case rel => exact ⟨i + 1, by first | (rw [w64o (by omega) (by omega)]; simp; done) | (simp; done), ⟨by omega, by omega⟩, ⟨h1.congr (fun j _ => by
            by_cases e1 : j = k
            · subst e1
              simp only [if_true, Nat.lt_irrefl, if_false, HXY.out]
              rw [← HT.out]
              exact put2_ i _ _ x y t
            · simp only [e1, if_false])⟩⟩
        · have db : decide ((i : Int) < (ln k : Int)) = false := decide_eq_false (by omega)
          have db2 : decide (i < ln k) = false := decide_eq_false d
          have hi := Aside0.mk (show i = ln k by omega)
          clear d hI
          go_wp2
          have hN := HN.out
          have c := c_.out
          have hl := (HST.out.rows k _ HV.out).1
          go_roundg ko
          case measure => omega
          case rel => exact ⟨k + 1, by first | (rw [w64o (by omega) (by omega)]; simp; done) | (simp; done), ⟨by omega, by omega⟩, ⟨HS.out.congr (fun j _ => by
            by_cases e1 : j < k
            · simp only [e1, if_true, if_pos (show j < k + 1 by omega)]
            · by_cases e2 : j = k
              · subst e2
                simp only [Nat.lt_irrefl, if_false, if_true, if_pos (Nat.lt_succ_self j), hi.out]
                rw [← hl, List.drop_length, List.append_nil]
              · simp only [e1, e2, if_false, if_neg (show ¬ j < k + 1 by omega)])⟩⟩
    · have cb : decide ((k : Int) < (vs.length : Int)) = false := decide_eq_false (by omega)
      have cb2 : decide (k < vs.length) = false := decide_eq_false c
      have hk := Aside0.mk (show k = vs.length by omega)
      have HG := Aside0.mk (HS.out.congr (C' := fun j => rep (ln j) (ownOwnRanges.m1 j)) (fun j hj => by simp only [hk.out, if_pos hj]))
      clear c hN HS
      go_wp2
      clear cb cb2
      have HH := Aside0.mk (show w.heap.size ≤ wr.heap.size from HG.out.kept.1)
      have HVH := Aside0.mk (show ∀ (j : Nat) (v : Value), vs[j]? = some v → ∀ k, v.ownBlock = some k → k < wr.heap.size from fun j v hv k hk => ((HG.out.rows j v hv).lt k hk).2)
      have HLH := Aside0.mk (show ∀ k, (Value.slice Al vs.length cl).ownBlock = some k → k < wr.heap.size from fun k hk => (HG.out.outer.lt k hk).2)
      generalize hH : wr.heap.size = H at HH HVH HLH
      replace hH := Aside0.mk hH
      go_loopg [3, 36] (vs.length + 1) (fun kq v3 v36 w' => ∃ us : List Value, v36 = .int .i64 (us.length : Int) ∧ Aside0 (us.length + kq = vs.length + 1 ∧ us.length ≤ vs.length) ∧ Aside0 (OwnGr w0.heap.size 56 2 32 w0 w P (.slice Al vs.length cl) vs ln (fun j => rep (ln j) (ownOwnRanges.m1 j)) H (fun j => rep (ln j) (ownOwnRanges.m1 j) ++ rep 24 (ownOwnRanges.m2 j)) us v3 w'))
      case atStart => exact ⟨[], rfl, ⟨by simp, by simp⟩, ⟨⟨HG.out, by rw [hH.out]; exact Nat.le_refl _, own_nil _ _ _ _, fun b hb => by simp [Value.ownBlock] at hb, fun j u hu => by simp at hu, fun j u hu => by simp at hu⟩⟩⟩
      case round =>
        clear HG hH
        obtain ⟨us, rfl, HN2, HG⟩ := hrel
        have hN := HN2.out
        cases gk with
        | zero => exact absurd hN (by omega)
        | succ ko =>
        by_cases c : us.length < vs.length
        · have c_ := Aside0.mk c
          have HN0' := HN0.out
          have cb : decide ((us.length : Int) < (vs.length : Int)) = true := decide_eq_true (by omega)
          have cb2 : decide (us.length < vs.length) = true := decide_eq_true c
          have p : (0 ≤ (us.length : Int)) = True := eq_true (by omega)
          have q : ((us.length : Int) < (vs.length : Int)) = True := eq_true (by omega)
          obtain ⟨v, hv⟩ : ∃ v, vs[us.length]? = some v := ⟨_, List.getElem?_eq_getElem c⟩
          obtain ⟨gl, cl', el, _⟩ := HG.out.st.outer.form (by omega)
          simp only [Value.slice.injEq] at el
          obtain ⟨rfl, _, rfl⟩ := el
          have hx := (HG.out.st.outer.cellAt us.length (by omega)).trans hv
          obtain ⟨Av, cv, rfl⟩ := own_slice (HG.out.st.rows _ v hv)
          have HV := Aside0.mk hv
          have hk5 : (us.length : Int) ≤ 5864062014804 := by omega
          have hlk := HLN.out us.length
          clear hv c hN HN0'
          go_wp2
          clear hx cb cb2 p q
          have HWB := Aside0.mk (show w0.heap.size ≤ wr.heap.size from Nat.le_trans HB0.out (Nat.le_trans HH.out HG.out.big))
          have HHK := Aside0.mk HG.out.big
          have HUK := Aside0.mk (show ∀ (j : Nat) (u : Value), us[j]? = some u → ∀ k, u.ownBlock = some k → k < wr.heap.size from fun j u hu k hk => ((HG.out.rows j u hu).lt k hk).2)
          have HGK := Aside0.mk (show ∀ k, u3.ownBlock = some k → k < wr.heap.size from fun k hk => (HG.out.grown.lt k hk).2)
          have HC0 := Aside0.mk (show CurAt wr w0.heap.size 56 2 (.slice Av (ln us.length) cv) (ln us.length) wr.heap.size (.slice Av (ln us.length) cv) 0 (rep (ln us.length) (ownOwnRanges.m1 us.length) ++ rep 0 (ownOwnRanges.m2 us.length)) from ⟨by have := HG.out.st.rows _ _ HV.out; simpa [rep] using this, .inl ⟨_, _, rfl, rfl⟩⟩)
          have HKW := Aside0.mk (Nat.le_refl wr.heap.size)
          generalize hK : wr.heap.size = K at HWB HHK HUK HGK HC0 HKW
          replace hK := Aside0.mk hK
          go_loopg [8, 9] 25 (fun kq v8 v9 w' => ∃ i : Nat, v9 = .int .i64 (i : Int) ∧ Aside0 (i + kq = 25 ∧ i ≤ 24) ∧ Aside0 (K ≤ w'.heap.size) ∧ Aside0 (OwnGr w0.heap.size 56 2 32 w0 w P (.slice (some ⟨gl, 0, none⟩) vs.length cl) vs ln (fun j => rep (ln j) (ownOwnRanges.m1 j)) H (fun j => rep (ln j) (ownOwnRanges.m1 j) ++ rep 24 (ownOwnRanges.m2 j)) us u3 w') ∧ Aside0 (CurAt w' w0.heap.size 56 2 (.slice Av (ln us.length) cv) (ln us.length) K v8 i (rep (ln us.length) (ownOwnRanges.m1 us.length) ++ rep i (ownOwnRanges.m2 us.length))))
          case atStart => exact ⟨0, rfl, ⟨by omega, by omega⟩, ⟨by rw [hK.out]; exact Nat.le_refl _⟩, HG, HC0⟩
          case round =>
            clear HC0 HKW hK
            obtain ⟨i, rfl, HI, HKW, HG, HC⟩ := hrel
            have hI := HI.out
            cases gk with
            | zero => exact absurd hI (by omega)
            | succ ki =>
            by_cases d : i < 24
            · have d_ := Aside0.mk d
              have db : decide ((i : Int) < 24) = true := decide_eq_true (by omega)
              clear d hI
              go_wp2_with (first | ((with_reducible refine gate_builtin (b := .append) (xs := #[.tmp 45, .tmp 49]) rfl ?_); (try (refine gate_guard (by rfl) ?_; dsimp only)); at_builtin; refine wpList_append_two wr rfl (.tmp 45) (.tmp 49) 32 rfl w0.heap.size 56 (.agg #[(.int .i64 0), (.int .i64 0)]) 2 16 Try.underlying32 info56 rfl (by decide) (by decide) u8 (ln us.length + i) _ rfl HC.out.1 [.int .i64 ((us.length : Int) + 1), .int .i64 0] rfl rfl (fun u hu => by simp at hu; rcases hu with rfl | rfl <;> rfl) (by have := d_.out; omega) (Nat.le_trans HWB.out HKW.out) ?_; intro v8' W1 ho hcase; have HA := Aside0.mk (HG.out.app (Nat.le_trans HWB.out HKW.out) (by decide) HAP.out HPP.out HVH.out HHK.out (Nat.le_trans HH.out HHK.out) HKW.out HUK.out HGK.out HLH.out HV.out HC.out (by rw [List.take_append_of_le_length (by rw [rep_len]; exact Nat.le_refl _), List.take_of_length_le (by rw [rep_len]; exact Nat.le_refl _)]) ho hcase); have HKW1 := Aside0.mk (Nat.le_trans HKW.out (by rcases hcase with ⟨_, _, _, _, hg⟩ | ⟨_, hg⟩ <;> exact hg.size)); clear ho hcase))
              have hI := HI.out
              have d := d_.out
              go_roundg ki
              case measure => omega
              case rel => exact ⟨i + 1, by first | (rw [w64o (by omega) (by omega)]; simp; done) | (simp; done), ⟨by omega, by omega⟩, HKW1, ⟨HA.out.1⟩, ⟨by have := HA.out.2; rw [List.append_assoc] at this; rw [rep_succ]; exact this⟩⟩
            · have db : decide ((i : Int) < 24) = false := decide_eq_false (by omega)
              obtain rfl : i = 24 := by omega
              obtain ⟨A8, c8, e8⟩ := own_slice HC.out.1
              subst e8
              clear d hI
              have HN0' := HN0.out
              have c := c_.out
              go_wp2_with (first | ((with_reducible refine gate_builtin (b := .append) (xs := #[.tmp 51, .tmp 53]) rfl ?_); (try (refine gate_guard (by rfl) ?_; dsimp only)); at_builtin; refine wpList_append_two wr rfl (.tmp 51) (.tmp 53) 60 rfl w0.heap.size 32 (.slice none 0 0) 1 24 Try.underlying60 info32 rfl (by decide) (by decide) u3 us.length us rfl HG.out.grown [.slice A8 (ln us.length + 24) c8] rfl rfl (fun u hu => by rw [List.mem_singleton.1 hu]; rfl) (by omega) (Nat.le_trans HWB.out HKW.out) ?_; intro v3' W1 ho hcase; have HA := Aside0.mk (HG.out.join (Nat.le_trans HWB.out HKW.out) (by decide) HHK.out HH.out HLH.out HV.out HC.out ho hcase); clear ho hcase))
              clear HN0' c
              have hN := HN2.out
              have c := c_.out
              go_roundg ko
              case measure => omega
              case rel => exact ⟨us ++ [.slice A8 (ln us.length + 24) c8], by first | (rw [w64o (by omega) (by omega)]; simp; done) | (simp; done), ⟨by simp; omega, by simp; omega⟩, HA⟩
        · have cb : decide ((us.length : Int) < (vs.length : Int)) = false := decide_eq_false (by omega)
          have cb2 : decide (us.length < vs.length) = false := decide_eq_false c
          have hu := Aside0.mk (show us.length = vs.length by omega)
          obtain ⟨Ag, cg, eg⟩ := own_slice HG.out.grown
          subst eg
          clear c hN
          go_wp2
          clear cb cb2
          go_loopg [58] (vs.length + 1) (fun kq v58 w' => ∃ k : Nat, v58 = .int .i64 (k : Int) ∧ Aside0 (k + kq = vs.length + 1 ∧ k ≤ vs.length) ∧ Aside0 (OwnGr w0.heap.size 56 2 32 w0 w P (.slice Al vs.length cl) vs ln (fun j => rep (ln j) (ownOwnRanges.m1 j)) H (fun j => rep (ln j) (ownOwnRanges.m1 j) ++ rep 24 (ownOwnRanges.m2 j)) us (.slice Ag us.length cg) w'))
          case atStart => exact ⟨0, rfl, ⟨by omega, by omega⟩, HG⟩
          case round =>
            clear HG
            obtain ⟨k, rfl, HN3, HG⟩ := hrel
            have hN := HN3.out
            cases gk with
            | zero => exact absurd hN (by omega)
            | succ ko =>
            by_cases c : k < vs.length
            · have c_ := Aside0.mk c
              have hu' := hu.out
              have HN0' := HN0.out
              have cb : decide ((k : Int) < (us.length : Int)) = true := decide_eq_true (by omega)
              have cb2 : decide (k < us.length) = true := decide_eq_true (by omega)
              have p : (0 ≤ (k : Int)) = True := eq_true (by omega)
              have q : ((k : Int) < (us.length : Int)) = True := eq_true (by omega)
              have q2 := Aside0.mk (show ((k : Int) < (vs.length : Int)) = True from eq_true (by omega))
              obtain ⟨v, hv⟩ : ∃ v, vs[k]? = some v := ⟨_, List.getElem?_eq_getElem c⟩
              obtain ⟨u, hw⟩ : ∃ u, us[k]? = some u := ⟨_, List.getElem?_eq_getElem (by omega)⟩
              obtain ⟨gl, cl', el, _⟩ := HG.out.st.outer.form (by omega)
              simp only [Value.slice.injEq] at el
              obtain ⟨rfl, _, rfl⟩ := el
              obtain ⟨gg, cg', eg, _⟩ := HG.out.grown.form (by omega)
              simp only [Value.slice.injEq] at eg
              obtain ⟨rfl, _, rfl⟩ := eg
              have hx := (HG.out.grown.cellAt k (by omega)).trans hw
              obtain ⟨Av, cv, rfl⟩ := own_slice (HG.out.st.rows _ v hv)
              obtain ⟨Au, cu, rfl⟩ := own_slice (HG.out.rows _ u hw)
              have HV := Aside0.mk hv
              have HW := Aside0.mk hw
              have hk5 : (k : Int) ≤ 5864062014804 := by omega
              have hlk := HLN.out k
              clear hv hw c hN hu' HN0'
              go_wp2
              clear hx cb cb2 p q
              go_loopg [65] (ln k + 25) (fun kq v65 w' => ∃ i : Nat, v65 = .int .i64 (i : Int) ∧ Aside0 (i + kq = ln k + 25 ∧ i ≤ ln k + 24) ∧ Aside0 (OwnGr w0.heap.size 56 2 32 w0 w P (.slice (some ⟨gl, 0, none⟩) vs.length cl) vs ln (fun j => rep (ln j) (ownOwnRanges.m1 j)) H (fun j => rep (ln j) (ownOwnRanges.m1 j) ++ rep 24 (ownOwnRanges.m2 j)) us (.slice (some ⟨gg, 0, none⟩) us.length cg) w'))
              case atStart => exact ⟨0, rfl, ⟨by omega, by omega⟩, HG⟩
              case round =>
                clear HG
                obtain ⟨i, rfl, HI, HG⟩ := hrel
                have hI := HI.out
                cases gk with
                | zero => exact absurd hI (by omega)
                | succ ki =>
                by_cases d : i < ln k + 24
                · have d_ := Aside0.mk d
                  have c := c_.out
                  have hu' := hu.out
                  have db : decide ((i : Int) < ((ln k + 24 : Nat) : Int)) = true := decide_eq_true (by omega)
                  have db1 : decide ((i : Int) < (ln k : Int) + 24) = true := decide_eq_true (by omega)
                  have db2 : decide (i < ln k + 24) = true := decide_eq_true d
                  have p : (0 ≤ (i : Int)) = True := eq_true (by omega)
                  have q : ((i : Int) < ((ln k + 24 : Nat) : Int)) = True := eq_true (by omega)
                  have q1 : ((i : Int) < (ln k : Int) + 24) = True := eq_true (by omega)
                  have pk : (0 ≤ (k : Int)) = True := eq_true (by omega)
                  have qk : ((k : Int) < (vs.length : Int)) = True := eq_true (by omega)
                  have hrow : wr.ownsRow w0.heap.size 56 2 (.slice Au (ln k + 24) cu) (ln k + 24) (rep (ln k) (ownOwnRanges.m1 k) ++ rep 24 (ownOwnRanges.m2 k)) := HG.out.rows k _ HW.out
                  obtain ⟨gu, cu', eu, _⟩ := hrow.form (by omega)
                  simp only [Value.slice.injEq] at eu
                  obtain ⟨rfl, _, rfl⟩ := eu
                  have hxl := (HG.out.st.outer.cellAt k (by omega)).trans HV.out
                  have hl1 : (rep (ln k) (ownOwnRanges.m1 k)).length = ln k * 2 := rep_len _ _
                  by_cases f : i < ln k
                  · have fb : decide ((i : Int) < (ln k : Int)) = true := decide_eq_true (by omega)
                    have fb2 : decide (i < ln k) = true := decide_eq_true f
                    have qf : ((i : Int) < (ln k : Int)) = True := eq_true (by omega)
                    have fb3 : decide ((ln k : Int) ≤ (i : Int)) = false := decide_eq_false (by omega)
                    have fb4 : decide (ln k ≤ i) = false := decide_eq_false (by omega)
                    have hvrow := HG.out.st.rows k _ HV.out
                    obtain ⟨gv, cv', ev, _⟩ := hvrow.form (by omega)
                    simp only [Value.slice.injEq] at ev
                    obtain ⟨rfl, _, rfl⟩ := ev
                    have hx0 : wr.cell? ⟨gu, i * 2, none⟩ = some (.int .i64 (-(k : Int) - 5)) := by
                      rw [hrow.cellAt (i * 2) (by omega), List.getElem?_append_left (by omega)]; exact rep_at (m := ownOwnRanges.m1 k) (sz := 2) rfl f 0 (by omega)
                    have hx1 : wr.cell? ⟨gv, i * 2, none⟩ = some (.int .i64 (-(k : Int) - 5)) := by
                      rw [hvrow.cellAt (i * 2) (by omega)]; exact rep_at (m := ownOwnRanges.m1 k) (sz := 2) rfl f 0 (by omega)
                    clear hrow hvrow hl1 f d c hu' hI
                    go_wp2
                    repeat (go_quiet (fail); try go_wp2)
                    have hI := HI.out
                    have d := d_.out
                    go_roundg ki
                    case measure => omega
                    case rel => exact ⟨i + 1, by first | (rw [w64o (by omega) (by omega)]; simp; done) | (simp; done), ⟨by omega, by omega⟩, (by first | exact HG | exact ⟨HG.out.drewN _⟩)⟩
                  · have fb : decide ((i : Int) < (ln k : Int)) = false := decide_eq_false (by omega)
                    have fb2 : decide (i < ln k) = false := decide_eq_false f
                    have fb3 : decide ((ln k : Int) ≤ (i : Int)) = true := decide_eq_true (by omega)
                    have fb4 : decide (ln k ≤ i) = true := decide_eq_true (by omega)
                    have hx0 : wr.cell? ⟨gu, i * 2, none⟩ = some (.int .i64 ((k : Int) + 1)) := by
                      rw [hrow.cellAt (i * 2) (by omega), List.getElem?_append_right (by omega), hl1, show i * 2 - ln k * 2 = (i - ln k) * 2 by omega]; exact rep_at (m := ownOwnRanges.m2 k) (sz := 2) rfl (by omega) 0 (by omega)
                    clear hrow hl1 f d c hu' hI
                    go_wp2
                    repeat (go_quiet (fail); try go_wp2)
                    have hI := HI.out
                    have d := d_.out
                    go_roundg ki
                    case measure => omega
                    case rel => exact ⟨i + 1, by first | (rw [w64o (by omega) (by omega)]; simp; done) | (simp; done), ⟨by omega, by omega⟩, (by first | exact HG | exact ⟨HG.out.drewN _⟩)⟩
                · have db : decide ((i : Int) < ((ln k + 24 : Nat) : Int)) = false := decide_eq_false (by omega)
                  have db1 : decide ((i : Int) < (ln k : Int) + 24) = false := decide_eq_false (by omega)
                  have db2 : decide (i < ln k + 24) = false := decide_eq_false d
                  clear d hI
                  go_wp2
                  have hN := HN3.out
                  have c := c_.out
                  go_roundg ko
                  case measure => omega
                  case rel => exact ⟨k + 1, by first | (rw [w64o (by omega) (by omega)]; simp; done) | (simp; done), ⟨by omega, by omega⟩, HG⟩
            · have hu' := hu.out
              have cb : decide ((k : Int) < (us.length : Int)) = false := decide_eq_false (by omega)
              have cb2 : decide (k < us.length) = false := decide_eq_false (by omega)
              clear c hN hu'
              go_wp2
              go_ret
              exact ⟨rfl, HG.out.st.below, HG.out.st.kept⟩
def leadtrailmem_OwnRanges.f (l0 : List (List (S56))) : Option Bool := if l0.length ≤ 5864062014804 then (if l0.all (fun x => decide (x.length ≤ 8796093022184)) = true then some true else none) else none
theorem leadtrailmem_OwnRanges.calls (P0_ : Nat → Prop) (u9000_ : Value) (l0 : List (List (S56))) (r : Bool) (w0 w : World) (hB : Below w0.heap.size w0 w) (ho0 : Kd.S (Kd.slice 56 k56) 32 w w0.heap.size P0_ u9000_ l0) (h : leadtrailmem_OwnRanges.f l0 = some r) :
    Calls Try.prog 66 #[u9000_] w fun e w' => e = .returned (.bool r) ∧ Below w0.heap.size w0 w' ∧ Kept w w' (fun k_ => P0_ k_) := by
  unfold leadtrailmem_OwnRanges.f at h
  by_cases c : l0.length ≤ 5864062014804
  · rw [if_pos c] at h
    by_cases d : l0.all (fun x => decide (x.length ≤ 8796093022184)) = true
    · rw [if_pos d] at h
      obtain rfl := Option.some.inj h
      obtain ⟨vs, hl, ho, hr, hap, hP⟩ := Kd.S_open ho0
      have hch : ∀ j, ∃ n c, n ≤ 8796093022184 ∧ ∀ v, vs[j]? = some v → w.ownsRow w0.heap.size 56 2 v n c := fun j => by
        by_cases hj : j < vs.length
        · obtain ⟨x, c, hx, ho'⟩ := hr j _ (List.getElem?_eq_getElem hj)
          exact ⟨x.length, c, of_decide_eq_true (List.all_eq_true.1 d x (List.mem_of_getElem? hx)), fun v hv => by rw [List.getElem?_eq_getElem hj] at hv; cases hv; exact ho'⟩
        · exact ⟨0, [], by omega, fun v hv => (hj (List.getElem?_eq_some_iff.1 hv).1).elim⟩
      exact ownOwnRanges.calls P0_ u9000_ vs (fun j => (hch j).choose) (fun j => (hch j).choose_spec.choose) w0 w hap hP ⟨hB, Kept.refl _ _, ho, fun j v hv => (hch j).choose_spec.choose_spec.2 v hv⟩ hB.size (by omega) (fun j => (hch j).choose_spec.choose_spec.1)
    · rw [if_neg d] at h; cases h
  · rw [if_neg c] at h; cases h
end Go.Proofs.Ytddffjhodiengaa.Q
