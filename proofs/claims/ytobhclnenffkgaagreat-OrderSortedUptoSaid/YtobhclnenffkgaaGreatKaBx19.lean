/- Words and walks of this claim, of the text Bx19. -/
import Derived.Test.YtobhclnenffkgaaGreatKaQW0
import Derived.Test.YtobhclnenffkgaaGreatKaBx0
namespace Go.Proofs.YtobhclnenffkgaaGreat.B
open Go.RowKit Go.Proofs.YtobhclnenffkgaaGreatW.PrintWords Go.Proofs.YtobhclnenffkgaaGreatW.PrintLast Go.Proofs.YtobhclnenffkgaaGreatW.PrintMore
set_option maxHeartbeats 8000000
set_option maxRecDepth 100000
attribute [local go_sem] max2_int min2_int max_two min_two max_three min_three max_four min_four
set_option linter.unusedVariables false
set_option linter.unusedSimpArgs false
def ownOwnInts.m1 (j : Nat) : List Value := [.int .i64 (-(j : Int) - 5)]
def ownOwnInts.m2 (j : Nat) : List Value := [.int .i64 ((j : Int) + 1)]
theorem ownOwnInts.iE : (Tryz.prog.info? 3).map (fun i => (i.zero, i.size, i.bytes)) = some (some (.int .i64 0), 1, 8) := by kernel_rfl
theorem ownOwnInts.iL : (Tryz.prog.info? 25).map (fun i => (i.zero, i.size, i.bytes)) = some (some (.slice none 0 0), 1, 24) := by kernel_rfl
theorem ownOwnInts.calls (P : Nat → Prop) (lv : Value) (vs : List Value) (ln : Nat → Nat) (C0 : Nat → List Value) (w0 w : World) (hap : ApartV vs) (hP : ∀ (j : Nat) (v : Value), vs[j]? = some v → ∀ k, v.ownBlock = some k → P k)
 (hst : OwnSt w0.heap.size 3 1 25 w0 w P lv vs ln C0 w) (hb0 : w0.heap.size ≤ w.heap.size) (hn : vs.length ≤ 5864062014804) (hln : ∀ j, ln j ≤ 8796093022184) :
 Calls Tryz.prog 11 #[lv] w fun e w' => e = .returned (.bool true) ∧ Below w0.heap.size w0 w' ∧ Kept w w' (fun k_ => P k_) := by
 obtain ⟨Al, cl, rfl⟩ := own_slice hst.outer; have HST := zk hst; have HAP := zk hap; have HPP := zk hP; have HN0 := zk hn; have HLN := zk hln; have HB0 := zk hb0; clear hst hap hP hn hln hb0; go_enter Tryz.func11, Tryz.ntmps11
 go_wp2
 go_loopg [15] (vs.length + 1) (fun kq v15 w' => ∃ k : Nat, v15 = .int .i64 (k : Int) ∧ Aside0 (k + kq = vs.length + 1 ∧ k ≤ vs.length) ∧ Aside0 (OwnSt w0.heap.size 3 1 25 w0 w P (.slice Al vs.length cl) vs ln (fun j => if j < k then rep (ln j) (ownOwnInts.m1 j) else C0 j) w'))
 case atStart => exact ⟨0, rfl, ⟨by omega, by omega⟩, ⟨HST.out.congr (fun j _ => by simp)⟩⟩
 case round =>
  obtain ⟨k, rfl, HN, HS⟩ := hrel; have hN := HN.out
  cases gk with
  | zero => exact absurd hN (by omega)
  | succ ko =>
  by_cases c : k < vs.length
  ·have c_ := zk c; have HN0' := HN0.out; have cb : decide ((k : Int) < (vs.length : Int)) = true := decide_eq_true (by omega); have cb2 : decide (k < vs.length) = true := decide_eq_true c; have p : (0 ≤ (k : Int)) = True := eq_true (by omega); have q : ((k : Int) < (vs.length : Int)) = True := eq_true (by omega); obtain ⟨v, hv⟩ : ∃ v, vs[k]? = some v := ⟨_, List.getElem?_eq_getElem c⟩
   obtain ⟨gl, cl', el, _⟩ := HS.out.outer.form (by omega); simp only [Value.slice.injEq] at el; obtain ⟨rfl, _, rfl⟩ := el; have hx := (HS.out.outer.cellAt k (by omega)).trans hv; obtain ⟨Av, cv, rfl⟩ := own_slice (HS.out.rows k v hv); have HV := zk hv; have hk5 : (k : Int) ≤ 5864062014804 := by omega
   have hlk := HLN.out k; have hlk' : (ln k : Int) ≤ 8796093022184 := by omega
   clear hv c hN HN0'; go_wp2
   clear hx cb cb2 p q; go_loopg [22] (ln k + 1) (fun kq v22 w' => ∃ i : Nat, v22 = .int .i64 (i : Int) ∧ Aside0 (i + kq = ln k + 1 ∧ i ≤ ln k) ∧ Aside0 (OwnSt w0.heap.size 3 1 25 w0 w P (.slice (some ⟨gl, 0, none⟩) vs.length cl) vs ln (fun j => if j < k then rep (ln j) (ownOwnInts.m1 j) else if j = k then rep i (ownOwnInts.m1 k) ++ (C0 k).drop i else C0 j) w'))
   case atStart => exact ⟨0, rfl, ⟨by omega, by omega⟩, ⟨HS.out.congr (fun j _ => by
    by_cases h1 : j < k
    ·simp [h1]
    ·by_cases h2 : j = k
     ·subst h2; simp [rep]
     ·simp [h1, h2])⟩⟩
   case round =>
    clear HS; obtain ⟨i, rfl, HI, HS⟩ := hrel; have hI := HI.out
    cases gk with
    | zero => exact absurd hI (by omega)
    | succ ki =>
    by_cases d : i < ln k
    ·have d_ := zk d; have db : decide ((i : Int) < (ln k : Int)) = true := decide_eq_true (by omega); have db2 : decide (i < ln k) = true := decide_eq_true d; have p : (0 ≤ (i : Int)) = True := eq_true (by omega); have q : ((i : Int) < (ln k : Int)) = True := eq_true (by omega); have hrow := HS.out.rows k _ HV.out; obtain ⟨gv, cv', ev, _⟩ := hrow.form (by omega); simp only [Value.slice.injEq] at ev; obtain ⟨rfl, _, rfl⟩ := ev; have hl := (HST.out.rows k _ HV.out).1; obtain ⟨x, t, hxy⟩ : ∃ x t, (C0 k).drop i = x :: t := by
      have h1 : 1 ≤ ((C0 k).drop i).length := by rw [List.length_drop, hl]; omega
      match (C0 k).drop i, h1 with
      | x :: t, _ => exact ⟨x, t, rfl⟩
     have ht : t = (C0 k).drop (i + 1) := by
      rw [← List.drop_drop, hxy]; rfl
     simp only [Nat.lt_irrefl, if_false, if_true, hxy] at hrow; have hr : (rep i (ownOwnInts.m1 k)).length = i := (rep_len _ _).trans (Nat.mul_one _); have hx0 : wr.cell? ⟨gv, i, none⟩ = some x := by
      rw [hrow.cellAt i (by omega), List.getElem?_append_right (by omega), hr, Nat.sub_self]; rfl
     have hf0 := hrow.frozenAt i; have HXY := zk hxy; have HT := zk ht; clear hxy ht hrow hr hl d hI; go_wp2
     have hI := HI.out; have d := d_.out; have h1 := HS.out.put (by decide) HAP.out HPP.out HV.out i (.int .i64 (-(k : Int) - 5)); go_roundg ki
     case measure => omega
     case rel => exact ⟨i + 1, by first | (rw [w64o (by omega) (by omega)]; simp; done) | (simp; done), ⟨by omega, by omega⟩, ⟨h1.congr (fun j _ => by
      by_cases e1 : j = k
      ·subst e1; simp only [if_true, Nat.lt_irrefl, if_false, HXY.out]; rw [← HT.out]; exact put1 i _ x t
      ·simp only [e1, if_false])⟩⟩
    ·have db : decide ((i : Int) < (ln k : Int)) = false := decide_eq_false (by omega); have db2 : decide (i < ln k) = false := decide_eq_false d; have hi := zk (show i = ln k by omega); clear d hI; go_wp2
     have hN := HN.out; have c := c_.out; have hl := (HST.out.rows k _ HV.out).1; go_roundg ko
     case measure => omega
     case rel => exact ⟨k + 1, by first | (rw [w64o (by omega) (by omega)]; simp; done) | (simp; done), ⟨by omega, by omega⟩, ⟨HS.out.congr (fun j _ => by
      by_cases e1 : j < k
      ·simp only [e1, if_true, if_pos (show j < k + 1 by omega)]
      ·by_cases e2 : j = k
       ·subst e2; simp only [Nat.lt_irrefl, if_false, if_true, if_pos (Nat.lt_succ_self j), hi.out]; rw [List.drop_of_length_le (by rw [hl]; omega), List.append_nil]
       ·simp only [e1, e2, if_false, if_neg (show ¬ j < k + 1 by omega)])⟩⟩
  ·have cb : decide ((k : Int) < (vs.length : Int)) = false := decide_eq_false (by omega); have cb2 : decide (k < vs.length) = false := decide_eq_false c; have hk := zk (show k = vs.length by omega); have HG := zk (HS.out.congr (C' := fun j => rep (ln j) (ownOwnInts.m1 j)) (fun j hj => by simp only [hk.out, if_pos hj])); clear c hN HS; go_wp2
   clear cb cb2; have HH := zk (show w.heap.size ≤ wr.heap.size from HG.out.kept.1); have HVH := zk (show ∀ (j : Nat) (v : Value), vs[j]? = some v → ∀ k, v.ownBlock = some k → k < wr.heap.size from fun j v hv k hk => ((HG.out.rows j v hv).lt k hk).2); have HLH := zk (show ∀ k, (Value.slice Al vs.length cl).ownBlock = some k → k < wr.heap.size from fun k hk => (HG.out.outer.lt k hk).2); generalize hH : wr.heap.size = H at HH HVH HLH; replace hH := zk hH; go_loopg [3, 35] (vs.length + 1) (fun kq v3 v35 w' => ∃ us : List Value, v35 = .int .i64 (us.length : Int) ∧ Aside0 (us.length + kq = vs.length + 1 ∧ us.length ≤ vs.length) ∧ Aside0 (OwnGr w0.heap.size 3 1 25 w0 w P (.slice Al vs.length cl) vs ln (fun j => rep (ln j) (ownOwnInts.m1 j)) H (fun j => rep (ln j) (ownOwnInts.m1 j) ++ rep 24 (ownOwnInts.m2 j)) us v3 w'))
   case atStart => exact ⟨[], rfl, ⟨by simp, by simp⟩, ⟨⟨HG.out, by rw [hH.out]; exact Nat.le_refl _, own_nil _ _ _ _, fun b hb => by simp [Value.ownBlock] at hb, fun j u hu => by simp at hu, fun j u hu => by simp at hu⟩⟩⟩
   case round =>
    clear HG hH; obtain ⟨us, rfl, HN2, HG⟩ := hrel; have hN := HN2.out
    cases gk with
    | zero => exact absurd hN (by omega)
    | succ ko =>
    by_cases c : us.length < vs.length
    ·have c_ := zk c; have HN0' := HN0.out; have cb : decide ((us.length : Int) < (vs.length : Int)) = true := decide_eq_true (by omega); have cb2 : decide (us.length < vs.length) = true := decide_eq_true c; have p : (0 ≤ (us.length : Int)) = True := eq_true (by omega); have q : ((us.length : Int) < (vs.length : Int)) = True := eq_true (by omega); obtain ⟨v, hv⟩ : ∃ v, vs[us.length]? = some v := ⟨_, List.getElem?_eq_getElem c⟩
     obtain ⟨gl, cl', el, _⟩ := HG.out.st.outer.form (by omega); simp only [Value.slice.injEq] at el; obtain ⟨rfl, _, rfl⟩ := el; have hx := (HG.out.st.outer.cellAt us.length (by omega)).trans hv; obtain ⟨Av, cv, rfl⟩ := own_slice (HG.out.st.rows _ v hv); have HV := zk hv; have hk5 : (us.length : Int) ≤ 5864062014804 := by omega
     have hlk := HLN.out us.length; clear hv c hN HN0'; go_wp2
     clear hx cb cb2 p q; have HWB := zk (show w0.heap.size ≤ wr.heap.size from Nat.le_trans HB0.out (Nat.le_trans HH.out HG.out.big)); have HHK := zk HG.out.big; have HUK := zk (show ∀ (j : Nat) (u : Value), us[j]? = some u → ∀ k, u.ownBlock = some k → k < wr.heap.size from fun j u hu k hk => ((HG.out.rows j u hu).lt k hk).2); have HGK := zk (show ∀ k, u3.ownBlock = some k → k < wr.heap.size from fun k hk => (HG.out.grown.lt k hk).2); have HC0 := zk (show CurAt wr w0.heap.size 3 1 (.slice Av (ln us.length) cv) (ln us.length) wr.heap.size (.slice Av (ln us.length) cv) 0 (rep (ln us.length) (ownOwnInts.m1 us.length) ++ rep 0 (ownOwnInts.m2 us.length)) from ⟨by have := HG.out.st.rows _ _ HV.out; simpa [rep] using this, .inl ⟨_, _, rfl, rfl⟩⟩); have HKW := zk (Nat.le_refl wr.heap.size); generalize hK : wr.heap.size = K at HWB HHK HUK HGK HC0 HKW; replace hK := zk hK; go_loopg [8, 9] 25 (fun kq v8 v9 w' => ∃ i : Nat, v9 = .int .i64 (i : Int) ∧ Aside0 (i + kq = 25 ∧ i ≤ 24) ∧ Aside0 (K ≤ w'.heap.size) ∧ Aside0 (OwnGr w0.heap.size 3 1 25 w0 w P (.slice (some ⟨gl, 0, none⟩) vs.length cl) vs ln (fun j => rep (ln j) (ownOwnInts.m1 j)) H (fun j => rep (ln j) (ownOwnInts.m1 j) ++ rep 24 (ownOwnInts.m2 j)) us u3 w') ∧ Aside0 (CurAt w' w0.heap.size 3 1 (.slice Av (ln us.length) cv) (ln us.length) K v8 i (rep (ln us.length) (ownOwnInts.m1 us.length) ++ rep i (ownOwnInts.m2 us.length))))
     case atStart => exact ⟨0, rfl, ⟨by omega, by omega⟩, ⟨by rw [hK.out]; exact Nat.le_refl _⟩, HG, HC0⟩
     case round =>
      clear HC0 HKW hK; obtain ⟨i, rfl, HI, HKW, HG, HC⟩ := hrel; have hI := HI.out
      cases gk with
      | zero => exact absurd hI (by omega)
      | succ ki =>
      by_cases d : i < 24
      ·have d_ := zk d; have db : decide ((i : Int) < 24) = true := decide_eq_true (by omega); clear d hI; go_wp2_with (first | ((with_reducible refine gate_builtin (b := .append) (xs := #[.tmp 44, .tmp 47]) rfl ?_); (try (refine gate_guard (by rfl) ?_; dsimp only)); at_builtin; refine wpList_append_two wr rfl (.tmp 44) (.tmp 47) 25 rfl w0.heap.size 3 (.int .i64 0) 1 8 Tryz.underlying25 ownOwnInts.iE rfl (by decide) (by decide) u8 (ln us.length + i) _ rfl HC.out.1 [.int .i64 ((us.length : Int) + 1)] rfl rfl (fun u hu => by rw [List.mem_singleton.1 hu]; rfl) (by have := d_.out; omega) (Nat.le_trans HWB.out HKW.out) ?_; intro v8' W1 ho hcase; have HA := zk (HG.out.app (Nat.le_trans HWB.out HKW.out) (by decide) HAP.out HPP.out HVH.out HHK.out (Nat.le_trans HH.out HHK.out) HKW.out HUK.out HGK.out HLH.out HV.out HC.out (by rw [List.take_append_of_le_length (by rw [rep_len]; exact Nat.le_refl _), List.take_of_length_le (by rw [rep_len]; exact Nat.le_refl _)]) ho hcase); have HKW1 := zk (Nat.le_trans HKW.out (by rcases hcase with ⟨_, _, _, _, hg⟩ | ⟨_, hg⟩ <;> exact hg.size)); clear ho hcase))
       have hI := HI.out; have d := d_.out; go_roundg ki
       case measure => omega
       case rel => exact ⟨i + 1, by first | (rw [w64o (by omega) (by omega)]; simp; done) | (simp; done), ⟨by omega, by omega⟩, HKW1, ⟨HA.out.1⟩, ⟨by have := HA.out.2; rw [List.append_assoc] at this; rw [rep_succ]; exact this⟩⟩
      ·have db : decide ((i : Int) < 24) = false := decide_eq_false (by omega); obtain rfl : i = 24 := by omega
       obtain ⟨A8, c8, e8⟩ := own_slice HC.out.1; subst e8; clear d hI; have HN0' := HN0.out; have c := c_.out; go_wp2_with (first | ((with_reducible refine gate_builtin (b := .append) (xs := #[.tmp 49, .tmp 51]) rfl ?_); (try (refine gate_guard (by rfl) ?_; dsimp only)); at_builtin; refine wpList_append_two wr rfl (.tmp 49) (.tmp 51) 40 rfl w0.heap.size 25 (.slice none 0 0) 1 24 Tryz.underlying40 ownOwnInts.iL rfl (by decide) (by decide) u3 us.length us rfl HG.out.grown [.slice A8 (ln us.length + 24) c8] rfl rfl (fun u hu => by rw [List.mem_singleton.1 hu]; rfl) (by omega) (Nat.le_trans HWB.out HKW.out) ?_; intro v3' W1 ho hcase; have HA := zk (HG.out.join (Nat.le_trans HWB.out HKW.out) (by decide) HHK.out HH.out HLH.out HV.out HC.out ho hcase); clear ho hcase))
       clear HN0' c; have hN := HN2.out; have c := c_.out; go_roundg ko
       case measure => omega
       case rel => exact ⟨us ++ [.slice A8 (ln us.length + 24) c8], by first | (rw [w64o (by omega) (by omega)]; simp; done) | (simp; done), ⟨by simp; omega, by simp; omega⟩, HA⟩
    ·have cb : decide ((us.length : Int) < (vs.length : Int)) = false := decide_eq_false (by omega); have cb2 : decide (us.length < vs.length) = false := decide_eq_false c; have hu := zk (show us.length = vs.length by omega); obtain ⟨Ag, cg, eg⟩ := own_slice HG.out.grown; subst eg; clear c hN; go_wp2
     clear cb cb2; go_loopg [56] (vs.length + 1) (fun kq v56 w' => ∃ k : Nat, v56 = .int .i64 (k : Int) ∧ Aside0 (k + kq = vs.length + 1 ∧ k ≤ vs.length) ∧ Aside0 (OwnGr w0.heap.size 3 1 25 w0 w P (.slice Al vs.length cl) vs ln (fun j => rep (ln j) (ownOwnInts.m1 j)) H (fun j => rep (ln j) (ownOwnInts.m1 j) ++ rep 24 (ownOwnInts.m2 j)) us (.slice Ag us.length cg) w'))
     case atStart => exact ⟨0, rfl, ⟨by omega, by omega⟩, HG⟩
     case round =>
      clear HG; obtain ⟨k, rfl, HN3, HG⟩ := hrel; have hN := HN3.out
      cases gk with
      | zero => exact absurd hN (by omega)
      | succ ko =>
      by_cases c : k < vs.length
      ·have c_ := zk c; have hu' := hu.out; have HN0' := HN0.out; have cb : decide ((k : Int) < (us.length : Int)) = true := decide_eq_true (by omega); have cb2 : decide (k < us.length) = true := decide_eq_true (by omega); have p : (0 ≤ (k : Int)) = True := eq_true (by omega); have q : ((k : Int) < (us.length : Int)) = True := eq_true (by omega); have q2 := zk (show ((k : Int) < (vs.length : Int)) = True from eq_true (by omega)); obtain ⟨v, hv⟩ : ∃ v, vs[k]? = some v := ⟨_, List.getElem?_eq_getElem c⟩
       obtain ⟨u, hw⟩ : ∃ u, us[k]? = some u := ⟨_, List.getElem?_eq_getElem (by omega)⟩
       obtain ⟨gl, cl', el, _⟩ := HG.out.st.outer.form (by omega); simp only [Value.slice.injEq] at el; obtain ⟨rfl, _, rfl⟩ := el; obtain ⟨gg, cg', eg, _⟩ := HG.out.grown.form (by omega); simp only [Value.slice.injEq] at eg; obtain ⟨rfl, _, rfl⟩ := eg; have hx := (HG.out.grown.cellAt k (by omega)).trans hw; obtain ⟨Av, cv, rfl⟩ := own_slice (HG.out.st.rows _ v hv); obtain ⟨Au, cu, rfl⟩ := own_slice (HG.out.rows _ u hw); have HV := zk hv; have HW := zk hw; have hk5 : (k : Int) ≤ 5864062014804 := by omega
       have hlk := HLN.out k; clear hv hw c hN hu' HN0'; go_wp2
       clear hx cb cb2 p q; go_loopg [63] (ln k + 25) (fun kq v63 w' => ∃ i : Nat, v63 = .int .i64 (i : Int) ∧ Aside0 (i + kq = ln k + 25 ∧ i ≤ ln k + 24) ∧ Aside0 (OwnGr w0.heap.size 3 1 25 w0 w P (.slice (some ⟨gl, 0, none⟩) vs.length cl) vs ln (fun j => rep (ln j) (ownOwnInts.m1 j)) H (fun j => rep (ln j) (ownOwnInts.m1 j) ++ rep 24 (ownOwnInts.m2 j)) us (.slice (some ⟨gg, 0, none⟩) us.length cg) w'))
       case atStart => exact ⟨0, rfl, ⟨by omega, by omega⟩, HG⟩
       case round =>
        clear HG; obtain ⟨i, rfl, HI, HG⟩ := hrel; have hI := HI.out
        cases gk with
        | zero => exact absurd hI (by omega)
        | succ ki =>
        by_cases d : i < ln k + 24
        ·have d_ := zk d; have c := c_.out; have hu' := hu.out; have db : decide ((i : Int) < ((ln k + 24 : Nat) : Int)) = true := decide_eq_true (by omega); have db1 : decide ((i : Int) < (ln k : Int) + 24) = true := decide_eq_true (by omega); have db2 : decide (i < ln k + 24) = true := decide_eq_true d; have p : (0 ≤ (i : Int)) = True := eq_true (by omega); have q : ((i : Int) < ((ln k + 24 : Nat) : Int)) = True := eq_true (by omega); have q1 : ((i : Int) < (ln k : Int) + 24) = True := eq_true (by omega); have pk : (0 ≤ (k : Int)) = True := eq_true (by omega); have qk : ((k : Int) < (vs.length : Int)) = True := eq_true (by omega); have hrow : wr.ownsRow w0.heap.size 3 1 (.slice Au (ln k + 24) cu) (ln k + 24) (rep (ln k) (ownOwnInts.m1 k) ++ rep 24 (ownOwnInts.m2 k)) := HG.out.rows k _ HW.out; obtain ⟨gu, cu', eu, _⟩ := hrow.form (by omega); simp only [Value.slice.injEq] at eu; obtain ⟨rfl, _, rfl⟩ := eu; have hxl := (HG.out.st.outer.cellAt k (by omega)).trans HV.out; have hl1 : (rep (ln k) (ownOwnInts.m1 k)).length = ln k := (rep_len _ _).trans (Nat.mul_one _); by_cases f : i < ln k
         ·have fb : decide ((i : Int) < (ln k : Int)) = true := decide_eq_true (by omega); have fb2 : decide (i < ln k) = true := decide_eq_true f; have qf : ((i : Int) < (ln k : Int)) = True := eq_true (by omega); have fb3 : decide ((ln k : Int) ≤ (i : Int)) = false := decide_eq_false (by omega); have fb4 : decide (ln k ≤ i) = false := decide_eq_false (by omega); have hvrow := HG.out.st.rows k _ HV.out; obtain ⟨gv, cv', ev, _⟩ := hvrow.form (by omega); simp only [Value.slice.injEq] at ev; obtain ⟨rfl, _, rfl⟩ := ev; have hat := rep_at (m := ownOwnInts.m1 k) (sz := 1) rfl f 0 (by omega); rw [Nat.mul_one, Nat.add_zero] at hat; have hx0 : wr.cell? ⟨gu, i, none⟩ = some (.int .i64 (-(k : Int) - 5)) := by
           rw [hrow.cellAt i (by omega), List.getElem?_append_left (by omega)]; exact hat
          have hx1 : wr.cell? ⟨gv, i, none⟩ = some (.int .i64 (-(k : Int) - 5)) := by
           rw [hvrow.cellAt i (by omega)]; exact hat
          clear hat; clear hrow hvrow hl1 f d c hu' hI; go_wp2
          repeat (go_quiet (fail); try go_wp2)
          have hI := HI.out; have d := d_.out; go_roundg ki
          case measure => omega
          case rel => exact ⟨i + 1, by first | (rw [w64o (by omega) (by omega)]; simp; done) | (simp; done), ⟨by omega, by omega⟩, (by first | exact HG | exact ⟨HG.out.drewN _⟩)⟩
         ·have fb : decide ((i : Int) < (ln k : Int)) = false := decide_eq_false (by omega); have fb2 : decide (i < ln k) = false := decide_eq_false f; have fb3 : decide ((ln k : Int) ≤ (i : Int)) = true := decide_eq_true (by omega); have fb4 : decide (ln k ≤ i) = true := decide_eq_true (by omega); have hat := rep_at (m := ownOwnInts.m2 k) (sz := 1) rfl (show i - ln k < 24 by omega) 0 (by omega); rw [Nat.mul_one, Nat.add_zero] at hat; have hx0 : wr.cell? ⟨gu, i, none⟩ = some (.int .i64 ((k : Int) + 1)) := by
           rw [hrow.cellAt i (by omega), List.getElem?_append_right (by omega), hl1]; exact hat
          clear hat; clear hrow hl1 f d c hu' hI; go_wp2
          repeat (go_quiet (fail); try go_wp2)
          have hI := HI.out; have d := d_.out; go_roundg ki
          case measure => omega
          case rel => exact ⟨i + 1, by first | (rw [w64o (by omega) (by omega)]; simp; done) | (simp; done), ⟨by omega, by omega⟩, (by first | exact HG | exact ⟨HG.out.drewN _⟩)⟩
        ·have db : decide ((i : Int) < ((ln k + 24 : Nat) : Int)) = false := decide_eq_false (by omega); have db1 : decide ((i : Int) < (ln k : Int) + 24) = false := decide_eq_false (by omega); have db2 : decide (i < ln k + 24) = false := decide_eq_false d; clear d hI; go_wp2
         have hN := HN3.out; have c := c_.out; go_roundg ko
         case measure => omega
         case rel => exact ⟨k + 1, by first | (rw [w64o (by omega) (by omega)]; simp; done) | (simp; done), ⟨by omega, by omega⟩, HG⟩
      ·have hu' := hu.out; have cb : decide ((k : Int) < (us.length : Int)) = false := decide_eq_false (by omega); have cb2 : decide (k < us.length) = false := decide_eq_false (by omega); clear c hN hu'; go_wp2
       go_ret
       exact ⟨rfl, HG.out.st.below, HG.out.st.kept⟩
def leadtrailmem_OwnInts.f (l0 : List (List Int)) : Option Bool := if l0.length ≤ 5864062014804 then (if l0.all (fun x => decide (x.length ≤ 8796093022184)) = true then some true else none) else none
theorem leadtrailmem_OwnInts.calls (P0_ : Nat → Prop) (u9000_ : Value) (l0 : List (List Int)) (r : Bool) (w0 w : World) (hB : Below w0.heap.size w0 w) (ho0 : Kd.S (Kd.slice 3 (Kd.int .i64)) 25 w w0.heap.size P0_ u9000_ l0) (h : leadtrailmem_OwnInts.f l0 = some r) :
 Calls Tryz.prog 11 #[u9000_] w fun e w' => e = .returned (.bool r) ∧ Below w0.heap.size w0 w' ∧ Kept w w' (fun k_ => P0_ k_) := by
 unfold leadtrailmem_OwnInts.f at h; by_cases c : l0.length ≤ 5864062014804
 ·rw [if_pos c] at h; by_cases d : l0.all (fun x => decide (x.length ≤ 8796093022184)) = true
  ·rw [if_pos d] at h; obtain rfl := Option.some.inj h; obtain ⟨vs, hl, ho, hr, hap, hP⟩ := Kd.S_open ho0; have hch : ∀ j, ∃ n c, n ≤ 8796093022184 ∧ ∀ v, vs[j]? = some v → w.ownsRow w0.heap.size 3 1 v n c := fun j => by
    by_cases hj : j < vs.length
    ·obtain ⟨x, c, hx, ho'⟩ := hr j _ (List.getElem?_eq_getElem hj); exact ⟨x.length, c, of_decide_eq_true (List.all_eq_true.1 d x (List.mem_of_getElem? hx)), fun v hv => by rw [List.getElem?_eq_getElem hj] at hv; cases hv; exact ho'⟩
    ·exact ⟨0, [], by omega, fun v hv => (hj (List.getElem?_eq_some_iff.1 hv).1).elim⟩
   exact ownOwnInts.calls P0_ u9000_ vs (fun j => (hch j).choose) (fun j => (hch j).choose_spec.choose) w0 w hap hP ⟨hB, Kept.refl _ _, ho, fun j v hv => (hch j).choose_spec.choose_spec.2 v hv⟩ hB.size (by omega) (fun j => (hch j).choose_spec.choose_spec.1)
  ·rw [if_neg d] at h; cases h
 ·rw [if_neg c] at h; cases h
end Go.Proofs.YtobhclnenffkgaaGreat.B
