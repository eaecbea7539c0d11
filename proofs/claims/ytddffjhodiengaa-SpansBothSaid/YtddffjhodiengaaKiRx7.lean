/- Words and walks of this claim, of the text Rx7. -/
import Derived.Test.YtddffjhodiengaaKiRx0
import Derived.Test.YtddffjhodiengaaKiRx1
import Derived.Test.YtddffjhodiengaaKiRx2
import Derived.Test.YtddffjhodiengaaKiRx3
import Derived.Test.YtddffjhodiengaaKiRx4
import Derived.Test.YtddffjhodiengaaKiRx5
import Derived.Test.YtddffjhodiengaaKiRx6
namespace Go.Proofs.Ytddffjhodiengaa.R
open Go.RowKit Go.Proofs.YtddffjhodiengaaW.PrintWords Go.Proofs.YtddffjhodiengaaW.PrintLast Go.Proofs.YtddffjhodiengaaW.PrintMore
attribute [local go_sem] max2_int min2_int max_two min_two max_three min_three max_four min_four
set_option linter.unusedVariables false
set_option linter.unusedSimpArgs false
attribute [local go_sem high] eqA49
def leadtrailref03_Same.l0 : Nat → List (S49) → List (S49) → Int → Option (Bool)
  | 0, _, _, _ => none
  | k + 1, x0, x1, x5 => if x5 < (x0.length : Int) then (if 0 ≤ x5 then (if x5 < (x1.length : Int) then (if (!(((rd_T49 x0 x5).f0) == ((rd_T49 x1 x5).f0)) || (!(((rd_T49 x0 x5).f1) == ((rd_T49 x1 x5).f1)))) = true then (some false) else (leadtrailref03_Same.l0 k x0 x1 (wrap64 (x5 + 1)))) else (none)) else (none)) else (some true)
def leadtrailref03_Same.f (k : Nat) (l0 : List (S49)) (l1 : List (S49)) : Option (Bool) := if (l0.length : Int) = (l1.length : Int) then (leadtrailref03_Same.l0 k l0 l1 0) else (some false)
set_option maxHeartbeats 8000000 in
set_option maxRecDepth 100000 in
theorem leadtrailref03_Same.calls (k : Nat) (A0 : Option Addr) (c0 : Nat) (l0 : List (S49)) (A1 : Option Addr) (c1 : Nat) (l1 : List (S49)) (r : Bool) (w : World) (hr0 : Kd.C k49 w A0 l0.length l0) (hc0 : l0.length ≤ c0) (hr1 : Kd.C k49 w A1 l1.length l1) (hc1 : l1.length ≤ c1) (h : leadtrailref03_Same.f k l0 l1 = some r) :
    Calls Try.prog 21 #[.slice A0 l0.length c0, .slice A1 l1.length c1] w fun e w' => e = .returned (.bool r) ∧ Drawn0 w w' := by
  have hu49 := Try.underlying49
  have HR0 := Aside0.mk hr0
  have HC0 := Aside0.mk hc0
  clear hr0 hc0
  have HR1 := Aside0.mk hr1
  have HC1 := Aside0.mk hc1
  clear hr1 hc1
  have H : (if (l0.length : Int) = (l1.length : Int) then (leadtrailref03_Same.l0 k l0 l1 0) else (some false)) = some r := h
  clear h
  by_cases c3 : (l0.length : Int) = (l1.length : Int)
  · rw [if_pos c3] at H
    have c3b0 : ((l0.length : Int) == (l1.length : Int)) = true := beq_iff_eq.mpr c3
    have c3b1 : ((l0.length : Int) != (l1.length : Int)) = false := bne_eq_false_iff_eq.mpr c3
    have c3b2 : (l0.length == l1.length) = true := by first | simpa using c3 | (simp at c3 ⊢; omega)
    clear c3
    have H' := Aside0.mk H
    clear H
    go_enter Try.func21, Try.ntmps21
    go_wp2
    repeat (go_quiet (fail); try go_wp2)
    go_loopg [5] k (fun kq v5 w' => ∃ (x5_1 : Int), v5 = .int .i64 x5_1 ∧ Aside0 (leadtrailref03_Same.l0 kq l0 l1 x5_1 = some r) ∧ Aside0 (kq ≤ k) ∧ Drawn0 w w')
    case atStart => exact ⟨(0), (by first | rfl | (simp; done) | (simp [*]; done)), H', ⟨Nat.le_refl _⟩, by repeat (first | exact Drawn0.refl _ | apply Drawn0.step)⟩
    case round =>
      clear H'
      try clear c1
      try clear c2
      try clear p2
      try clear c3
      try clear c3b0
      try clear c3b1
      try clear c3b2
      obtain ⟨x5_1, rfl, HA, HK1, ⟨m1, rfl⟩⟩ := hrel
      cases gk with
      | zero => exact absurd HA.out (by simp [leadtrailref03_Same.l0])
      | succ k1 =>
        have H := HA.out
        clear HA
        simp only [leadtrailref03_Same.l0] at H
        by_cases c4 : x5_1 < (l0.length : Int)
        · rw [if_pos c4] at H
          have c4b0 : decide (x5_1 < (l0.length : Int)) = true := decide_eq_true c4
          clear c4
          by_cases c5 : 0 ≤ x5_1
          · rw [if_pos c5] at H
            have c5b0 : decide (0 ≤ x5_1) = true := decide_eq_true c5
            clear c5
            by_cases c6 : x5_1 < (l1.length : Int)
            · rw [if_pos c6] at H
              have c6b0 : decide (x5_1 < (l1.length : Int)) = true := decide_eq_true c6
              clear c6
              by_cases c7 : (!(((rd_T49 l0 x5_1).f0) == ((rd_T49 l1 x5_1).f0)) || (!(((rd_T49 l0 x5_1).f1) == ((rd_T49 l1 x5_1).f1)))) = true
              · rw [if_pos c7] at H
                have c7b0 : (!(((rd_T49 l0 x5_1).f0) == ((rd_T49 l1 x5_1).f0)) || (!(((rd_T49 l0 x5_1).f1) == ((rd_T49 l1 x5_1).f1)))) = true := c7
                clear c7
                obtain rfl := Option.some.inj H
                have p219 : 0 ≤ (x5_1 : Int) := of_decide_eq_true (by first | (with_reducible assumption) | assumption)
                have q219 : x5_1 < (l0.length : Int) := of_decide_eq_true (by first | (with_reducible assumption) | assumption)
                obtain ⟨ad219, e219, hx219_0, hx219_1⟩ := at_T49 HR0.out x5_1 p219 q219
                cases e219
                replace p219 := eq_true p219
                replace q219 := eq_true q219
                have p220 : 0 ≤ (x5_1 : Int) := of_decide_eq_true (by first | (with_reducible assumption) | assumption)
                have q220 : x5_1 < (l1.length : Int) := of_decide_eq_true (by first | (with_reducible assumption) | assumption)
                obtain ⟨ad220, e220, hx220_0, hx220_1⟩ := at_T49 HR1.out x5_1 p220 q220
                cases e220
                replace p220 := eq_true p220
                replace q220 := eq_true q220
                go_wp2
                repeat (go_quiet (fail); try go_wp2)
                go_ret
                exact ⟨by first | rfl | (simp; done) | (simp [*]; done), by repeat (first | exact Drawn0.refl _ | apply Drawn0.step)⟩
              · rw [if_neg c7] at H
                have c7b0 : (!(((rd_T49 l0 x5_1).f0) == ((rd_T49 l1 x5_1).f0)) || (!(((rd_T49 l0 x5_1).f1) == ((rd_T49 l1 x5_1).f1)))) = false := by simpa using c7
                clear c7
                have H' := Aside0.mk H
                clear H
                have p219 : 0 ≤ (x5_1 : Int) := of_decide_eq_true (by first | (with_reducible assumption) | assumption)
                have q219 : x5_1 < (l0.length : Int) := of_decide_eq_true (by first | (with_reducible assumption) | assumption)
                obtain ⟨ad219, e219, hx219_0, hx219_1⟩ := at_T49 HR0.out x5_1 p219 q219
                cases e219
                replace p219 := eq_true p219
                replace q219 := eq_true q219
                have p220 : 0 ≤ (x5_1 : Int) := of_decide_eq_true (by first | (with_reducible assumption) | assumption)
                have q220 : x5_1 < (l1.length : Int) := of_decide_eq_true (by first | (with_reducible assumption) | assumption)
                obtain ⟨ad220, e220, hx220_0, hx220_1⟩ := at_T49 HR1.out x5_1 p220 q220
                cases e220
                replace p220 := eq_true p220
                replace q220 := eq_true q220
                go_wp2
                repeat (go_quiet (fail); try go_wp2)
                go_roundg k1
                case measure => have := HK1.out; omega
                case rel => exact ⟨(wrap64 (x5_1 + 1)), (by first | rfl | (simp; done) | (simp [*]; done)), H', ⟨by have := HK1.out; omega⟩, by repeat (first | exact Drawn0.refl _ | apply Drawn0.step)⟩
            · rw [if_neg c6] at H
              exact absurd H (by simp)
          · rw [if_neg c5] at H
            exact absurd H (by simp)
        · rw [if_neg c4] at H
          have c4b0 : decide (x5_1 < (l0.length : Int)) = false := decide_eq_false c4
          clear c4
          obtain rfl := Option.some.inj H
          go_wp2
          repeat (go_quiet (fail); try go_wp2)
          go_ret
          exact ⟨by first | rfl | (simp; done) | (simp [*]; done), by repeat (first | exact Drawn0.refl _ | apply Drawn0.step)⟩
  · rw [if_neg c3] at H
    have c3b0 : ((l0.length : Int) == (l1.length : Int)) = false := beq_eq_false_iff_ne.mpr c3
    have c3b1 : ((l0.length : Int) != (l1.length : Int)) = true := bne_iff_ne.mpr c3
    have c3b2 : (l0.length == l1.length) = false := by first | simpa using c3 | (simp at c3 ⊢; omega)
    obtain rfl := Option.some.inj H
    go_enter Try.func21, Try.ntmps21
    go_wp2
    repeat (go_quiet (fail); try go_wp2)
    go_ret
    exact ⟨by first | rfl | (simp; done) | (simp [*]; done), by repeat (first | exact Drawn0.refl _ | apply Drawn0.step)⟩
theorem setP_congr {p q : Nat → Bool} : ∀ n, (∀ i, i < n → p i = q i) → setP p n = setP q n
  | 0, _ => rfl
  | n + 1, h => by
    have ih := setP_congr n fun i hi => h i (by omega)
    simp only [setP, ih, h n (by omega)]
    by_cases c : 0 < n
    · rw [h (n - 1) (by omega)]
    · simp [c]
set_option maxHeartbeats 8000000 in
set_option maxRecDepth 100000 in
theorem R3Meet.calls (k k' : Nat) (A0 A1 : Option Addr) (c0 c1 : Nat) (l0 l1 : List S49) (b b' : Bool) (w : World) (hr0 : Kd.C k49 w A0 l0.length l0) (hc0 : l0.length ≤ c0) (hr1 : Kd.C k49 w A1 l1.length l1) (hc1 : l1.length ≤ c1) (h : leadtrailref03_Valid.f k l0 = some b) (h' : leadtrailref03_Valid.f k' l1 = some b') (hok : b = true → ∀ r ∈ l0, okPiece r = true) (hok' : b' = true → ∀ r ∈ l1, okPiece r = true) (hsm : l0.length ≤ 8796093022207) (hsm' : l1.length ≤ 8796093022207) :
    Calls Try.prog 34 #[.slice A0 l0.length c0, .slice A1 l1.length c1] w fun e w' => ∃ v, e = .returned v ∧ Kd.R k49 49 w' w.heap.size (fun _ => True) v (setP (fun i => membersB b l0 i && membersB b' l1 i) 256) ∧ Below w.heap.size w w' := by
  have hM0 := R3Members.calls k A0 c0 l0 b w hr0 hc0 h hok hsm
  have hM1 := fun (w1 : World) (hB : Below w.heap.size w w1) => R3Members.calls k' A1 c1 l1 b' w1 (Kd.C_below hr1 hB) hc1 h' hok' hsm'
  clear hr0 hc0 h hok hr1 hc1 h' hok'
  change Calls Try.prog 77 _ w (fun e w' => e = .returned (.agg (bitsV (membersB b l0))) ∧ _) at hM0
  change ∀ w1, Below w.heap.size w w1 → Calls Try.prog 77 _ w1 (fun e w' => e = .returned (.agg (bitsV (membersB b' l1))) ∧ _) at hM1
  generalize membersB b l0 = p at hM0 ⊢
  generalize membersB b' l1 = q at hM1 ⊢
  go_enter Try.func34, Try.ntmps34
  go_wp2_with (first | (go_at_call 77; refine hM0.mono ?_; rintro e w1 ⟨rfl, hb⟩; clear hM0; have HB2 := Aside0.mk hb; clear hb) | (go_at_call 77; refine (hM1 _ HB2.out).mono ?_; rintro e w2 ⟨rfl, hb⟩; clear hM1; have HB3 := Aside0.mk (below_step HB2.out hb); clear hb HB2))
  have Z : bitsV (fun _ => false) = Try.zeroCells73 := bits_zero.symm
  rw [run_store_blk _ w2.heap.size 73 Try.zeroCells73 (bitsV p) (blk_alloc (blk_new w2 _) _) (hi73 p) (by rw [bits_zero, bitsV_size, bitsV_size]) (bits_one p)]
  have E0 := blk_row _ w2.heap.size _ (bitsV p) (blk_alloc (blk_new w2 (.cells Try.zeroCells73 73)) (.cells Try.zeroCells73 73))
  have E1 : (((w2.alloc (.cells Try.zeroCells73 73)).alloc (.cells Try.zeroCells73 73)).setRow w2.heap.size (bitsV p)).heap[w2.heap.size + 1]? = some (.cells Try.zeroCells73 73) := (setRow_other _ _ _ _ (by omega)).trans (blk_new2 w2 _ _)
  have HB4 := Aside0.mk (below_setRow (below_alloc (below_alloc HB3.out (.cells Try.zeroCells73 73)) (.cells Try.zeroCells73 73)) (below_size HB3.out) (bitsV p))
  have G_ := Aside0.mk (below_size HB3.out)
  clear Z HB3
  generalize (((w2.alloc (.cells Try.zeroCells73 73)).alloc (.cells Try.zeroCells73 73)).setRow w2.heap.size (bitsV p)) = w3 at E0 E1 HB4 ⊢
  generalize w2.heap.size = g at E0 E1 G_ HB4 ⊢
  replace E0 := Aside0.mk E0
  replace E1 := Aside0.mk E1
  go_wp2
  rw [run_store_blk _ (g + 1) 73 Try.zeroCells73 (bitsV q) E1.out (hi73 q) (by rw [bits_zero, bitsV_size, bitsV_size]) (bits_one q)]
  have D0 := Aside0.mk ((setRow_other w3 (g + 1) g (bitsV q) (by omega)).trans E0.out)
  have D1 := Aside0.mk (blk_row w3 (g + 1) _ (bitsV q) E1.out)
  have HB5 := Aside0.mk (below_setRow HB4.out (Nat.le_succ_of_le G_.out) (bitsV q))
  clear E0 E1 HB4
  generalize w3.setRow (g + 1) (bitsV q) = w4 at D0 D1 HB5 ⊢
  go_wp2
  go_loopg [7] 257 (fun kq v7 w' => ∃ n : Nat, v7 = .int .i64 (n : Int) ∧ Aside0 (n + kq = 257) ∧ Aside0 (n ≤ 256) ∧ Aside0 (w'.heap[g]? = some (.cells (bitsV fun j => if j < n then (p j && q j) else p j) 73 (0, 0))) ∧ Aside0 (w'.heap[g + 1]? = some (.cells (bitsV q) 73 (0, 0))) ∧ Aside0 (Below w.heap.size w w'))
  case atStart => exact ⟨0, rfl, ⟨by omega⟩, ⟨by omega⟩, ⟨by simpa using D0.out⟩, D1, HB5⟩
  case round =>
    clear D0 D1 HB5
    obtain ⟨n, rfl, HN, HN2, C0, C1, HB'⟩ := hrel
    cases gk with
    | zero => exact absurd HN.out (by have := HN2.out; omega)
    | succ k1 =>
    by_cases c : n ≤ 255
    · have cb : decide ((n : Int) ≤ 255) = true := decide_eq_true (by omega)
      have p2 : (0 ≤ (n : Int)) = True := eq_true (by omega)
      have q2 : ((n : Int) < 256) = True := eq_true (by omega)
      have c_ := Aside0.mk c
      have hc0 := blk_cell C0.out n
      rw [bitsV_get _ _ (by omega), if_neg (Nat.lt_irrefl n)] at hc0
      have hc1 := blk_cell C1.out n
      rw [bitsV_get _ _ (by omega)] at hc1
      have hf0 := blk_frozen C0.out n
      clear c
      have nextB : ∀ v : Bool, v = (p n && q n) → (bitsV fun j => if j < n then (p j && q j) else p j).setIfInBounds n (.bool v) = bitsV fun j => if j < n + 1 then (p j && q j) else p j := fun v hv => (bitsV_set _ _ _).trans (bitsV_congr fun j _ => by
        by_cases e : j = n
        · subst e; rw [if_pos rfl, if_pos (Nat.lt_succ_self _), hv]
        · rw [if_neg e]
          by_cases d : j < n
          · rw [if_pos d, if_pos (by omega)]
          · rw [if_neg d, if_neg (by omega)])
      cases hpn : p n <;> cases hqn : q n <;> rw [hpn] at hc0 nextB <;> rw [hqn] at hc1 nextB
      all_goals
        go_wp2
        have hN := HN.out
        have c := c_.out
        go_roundg k1
        case measure => omega
        case rel => exact ⟨n + 1, by rw [w64' (by omega) (by omega)]; simp, ⟨by omega⟩, ⟨by omega⟩, ⟨blk_put C0.out n _ (nextB _ rfl)⟩, ⟨blk_far C1.out (by simp) _⟩, ⟨below_set HB'.out G_.out⟩⟩
    · have cb : decide ((n : Int) ≤ 255) = false := decide_eq_false (by omega)
      have hn := Aside0.mk (show n = 256 by have := HN.out; have := HN2.out; omega)
      clear c
      go_wp2
      refine wp_load_blk 73 (.tmp 5) rfl g rfl _ C0.out 256 4 hu73 (hi73 _) ?_
      have hS := R3Set.calls (fun j => if j < n then (p j && q j) else p j) wr
      go_wp2_with (go_at_call 70; refine hS.mono ?_; rintro e w9 ⟨v, rfl, ho, hb⟩; have HO9 := Aside0.mk (Kd.R_lower ho (below_size HB'.out)); have HB9 := Aside0.mk (below_step HB'.out hb); clear ho hb hS)
      go_ret
      have eS := setP_congr (p := fun j => if j < n then (p j && q j) else p j) (q := fun j => p j && q j) 256 (fun j hj => by
        have := hn.out
        show (if j < n then (p j && q j) else p j) = _
        rw [if_pos (by omega)])
      exact ⟨v, rfl, by rw [← eS]; exact HO9.out, HB9.out⟩
def leadtrailref03_Meet.f (k : Nat) (l0 l1 : List (S49)) : Option (List (S49)) := (leadtrailref03_memb k l0).bind fun p => (leadtrailref03_memb k l1).bind fun q => some (setP (fun i => p i && q i) 256)
theorem leadtrailref03_Meet.calls (k : Nat) (A0 : Option Addr) (c0 : Nat) (l0 : List (S49)) (A1 : Option Addr) (c1 : Nat) (l1 : List (S49)) (r : List (S49)) (w : World) (hr0 : Kd.C k49 w A0 l0.length l0) (hc0 : l0.length ≤ c0) (hr1 : Kd.C k49 w A1 l1.length l1) (hc1 : l1.length ≤ c1) (h : leadtrailref03_Meet.f k l0 l1 = some r) :
    Calls Try.prog 34 #[.slice A0 l0.length c0, .slice A1 l1.length c1] w fun e w' => ∃ v0_ : Value, e = .returned (v0_) ∧ Kd.R k49 49 w' w.heap.size (fun _ => True) v0_ r ∧ Below w.heap.size w w' := by
  obtain ⟨p, h1, h2⟩ := Option.bind_eq_some_iff.mp h
  obtain ⟨q, h3, h4⟩ := Option.bind_eq_some_iff.mp h2
  obtain ⟨b, hv, rfl, hok, hsm⟩ := memb_some h1
  obtain ⟨b', hv', rfl, hok', hsm'⟩ := memb_some h3
  have hh := R3Meet.calls k k A0 A1 c0 c1 l0 l1 b b' w hr0 hc0 hr1 hc1 hv hv' hok hok' hsm hsm'
  obtain rfl := Option.some.inj h4
  exact hh
def spans_Union.f (k : Nat) (l0 : List (S49)) (l1 : List (S49)) : Option ((List (S49))) := (spans_set.f k l0).bind fun t246 => ((spans_set.f k l1).bind fun t249 => (if t246.length + t249.length < 8796093022208 then ((sets_Norm.f k (t246 ++ t249)).bind fun bt255 => ((spans_back.f k bt255.1).bind fun t259 => (some t259))) else (none)))
set_option maxHeartbeats 8000000 in
set_option maxRecDepth 100000 in
theorem spans_Union.calls (k : Nat) (A0 : Option Addr) (c0 : Nat) (l0 : List (S49)) (A1 : Option Addr) (c1 : Nat) (l1 : List (S49)) (r : List (S49)) (w : World) (hr0 : Kd.C k49 w A0 l0.length l0) (hc0 : l0.length ≤ c0) (hr1 : Kd.C k49 w A1 l1.length l1) (hc1 : l1.length ≤ c1) (h : spans_Union.f k l0 l1 = some r) :
    Calls Try.prog 51 #[.slice A0 l0.length c0, .slice A1 l1.length c1] w fun e w' => ∃ v0_ : Value, e = .returned (v0_) ∧ Kd.R k49 49 w' w.heap.size (fun _ => True) v0_ r ∧ Below w.heap.size w w' := by
  have HR0 := Aside0.mk hr0
  have HC0 := Aside0.mk hc0
  clear hr0 hc0
  have HR1 := Aside0.mk hr1
  have HC1 := Aside0.mk hc1
  clear hr1 hc1
  have HB := Aside0.mk (Below.refl w.heap.size w)
  have H : ((spans_set.f k l0).bind fun t246 => ((spans_set.f k l1).bind fun t249 => (if t246.length + t249.length < 8796093022208 then ((sets_Norm.f k (t246 ++ t249)).bind fun bt255 => ((spans_back.f k bt255.1).bind fun t259 => (some t259))) else (none)))) = some r := h
  clear h
  replace H := Option.bind_eq_some_iff.mp H
  obtain ⟨t246, A30, H⟩ := H
  replace H : ((spans_set.f k l1).bind fun t249 => (if t246.length + t249.length < 8796093022208 then ((sets_Norm.f k (t246 ++ t249)).bind fun bt255 => ((spans_back.f k bt255.1).bind fun t259 => (some t259))) else (none))) = some r := H
  have A3 := Aside0.mk A30
  clear A30
  replace H := Option.bind_eq_some_iff.mp H
  obtain ⟨t249, A40, H⟩ := H
  replace H : (if t246.length + t249.length < 8796093022208 then ((sets_Norm.f k (t246 ++ t249)).bind fun bt255 => ((spans_back.f k bt255.1).bind fun t259 => (some t259))) else (none)) = some r := H
  have A4 := Aside0.mk A40
  clear A40
  by_cases c5 : t246.length + t249.length < 8796093022208
  · rw [if_pos c5] at H
    have LMc5 := Aside0.mk c5
    clear c5
    obtain ⟨y252, hy252⟩ : ∃ y_ : List (S72), y_ = (t246 ++ t249) := ⟨_, rfl⟩
    replace H : ((sets_Norm.f k y252).bind fun bt255 => ((spans_back.f k bt255.1).bind fun t259 => (some t259))) = some r := by first | (rw [hy252]; with_reducible exact H) | (have H2_ := (Option.bind_some _ _).symm.trans H; rw [hy252]; with_reducible exact H2_) | (have H2_ := (Option.bind_some _ _).symm.trans H; with_reducible exact H2_) | with_reducible exact H | (rw [hy252]; exact H) | exact H
    have Ny252 := Aside0.mk hy252
    clear hy252
    replace H := Option.bind_eq_some_iff.mp H
    obtain ⟨⟨t255, t258⟩, A60, H⟩ := H
    replace H : ((spans_back.f k t255).bind fun t259 => (some t259)) = some r := H
    have A6 := Aside0.mk A60
    clear A60
    replace H := Option.bind_eq_some_iff.mp H
    obtain ⟨t259, A70, H⟩ := H
    replace H : (some t259) = some r := H
    have A7 := Aside0.mk A70
    clear A70
    obtain rfl := Option.some.inj H
    go_enter Try.func51, Try.ntmps51
    go_wp2_with (first | ((with_reducible refine gate_callee (f := 76) rfl ?_); refine goesL_ (some 6) rfl rfl Try.func76 (by kernel_rfl) rfl #[.slice A0 l0.length c0] rfl (by (try simp only [List.map_toArray, List.map_cons, List.map_nil]); first | done | rfl | (simp only [List.length_drop, List.length_take]; rfl)) ?_; (with_reducible refine (spans_set.calls k _ _ l0 t246 _ ?side1 ?side2 A3.out).mono ?_); (case side1 => repeat (first | exact HR0.out | (with_reducible refine Kd.C_alloc ?_ _) | (with_reducible refine Kd.C_drewN ?_ _) | (with_reducible refine Kd.C_drew ?_))); (case side2 => exact HC0.out); rintro e w8 ⟨v247, rfl, ho0, hb⟩; refine ⟨_, rfl, ?_⟩; have n0_ := Aside0.mk (Kd.R_lower ho0 (below_size (by repeat (first | (with_reducible first | exact HB.out | apply below_alloc | apply pw_below_drewN | apply below_drew1) | exact HB.out)))); have n1_ := Aside0.mk (below_step (by repeat (first | (with_reducible first | exact HB.out | apply below_alloc | apply pw_below_drewN | apply below_drew1) | exact HB.out)) hb); clear HB; have HO248 := n0_; have HB := n1_; clear n0_ n1_; (try clear hb); (try clear hb2); (try clear hk); (try clear hi); (try clear ho0)) | ((with_reducible refine gate_callee (f := 76) rfl ?_); refine goesL_ (some 8) rfl rfl Try.func76 (by kernel_rfl) rfl #[.slice A1 l1.length c1] rfl (by (try simp only [List.map_toArray, List.map_cons, List.map_nil]); first | done | rfl | (simp only [List.length_drop, List.length_take]; rfl)) ?_; (with_reducible refine (spans_set.calls k _ _ l1 t249 _ ?side1 ?side2 A4.out).mono ?_); (case side1 => repeat (first | exact (Kd.C_below HR1.out HB.out) | (with_reducible refine Kd.C_alloc ?_ _) | (with_reducible refine Kd.C_drewN ?_ _) | (with_reducible refine Kd.C_drew ?_))); (case side2 => exact HC1.out); rintro e w9 ⟨v250, rfl, ho0, hb⟩; refine ⟨_, rfl, ?_⟩; have n0_ := Aside0.mk (Kd.R_elder' (by (with_reducible repeat (first | apply Kd.R_alloc | apply Kd.R_drewN | apply Kd.R_drew)); exact HO248.out) (Kd.R_base ho0) hb); have n1_ := Aside0.mk (Kd.R_lower (Kd.R_new' ho0 (Kd.R_lt (by (with_reducible repeat (first | apply Kd.R_alloc | apply Kd.R_drewN | apply Kd.R_drew)); exact HO248.out))) (below_size (by repeat (first | (with_reducible first | exact HB.out | apply below_alloc | apply pw_below_drewN | apply below_drew1) | exact HB.out)))); have n2_ := Aside0.mk (below_step (by repeat (first | (with_reducible first | exact HB.out | apply below_alloc | apply pw_below_drewN | apply below_drew1) | exact HB.out)) hb); clear HO248; clear HB; have HO248 := n0_; have HO251 := n1_; have HB := n2_; clear n0_ n1_ n2_; (try clear hb); (try clear hb2); (try clear hk); (try clear hi); (try clear ho0); obtain ⟨Ao11, co11, eo11⟩ := Kd.R_slice HO251.out; subst eo11) | ((with_reducible refine gate_builtin (b := .append) (xs := #[.tmp 6, .tmp 8]) rfl ?_); at_builtin; refine Kd.R_append_rows k72 (w0 := w) w.heap.size rfl (.tmp 6) (.tmp 8) 69 72 (.agg #[(.int .i64 0), (.int .i64 0)]) 16 rfl Try.underlying69 info72 rfl (by decide) (by omega) v247 t246 t249 _ _ _ (fun k_ => some k_ ≠ (.slice Ao11 t249.length co11 : Value).ownBlock) (fun _ => False) rfl rfl ?aO ?aR (fun _ _ h => h) (fun _ h => h.elim) ?aF ?aB ?aS ?aL ?_; (case aR => repeat (first | exact (Kd.R_reads' HO251.out).2.2 | (with_reducible refine Kd.C_alloc ?_ _) | (with_reducible refine Kd.C_drewN ?_ _) | (with_reducible refine Kd.C_drew ?_))); (case aB => exact (by repeat (first | (with_reducible first | exact HB.out | apply below_alloc | apply pw_below_drewN | apply below_drew1) | exact HB.out))); (case aF => exact (fun k_ hk => Kd.fresh' (Kd.R_lt (by (with_reducible repeat (first | apply Kd.R_alloc | apply Kd.R_drewN | apply Kd.R_drew)); exact HO251.out)) k_ hk)); (case aO => exact (by (with_reducible repeat (first | apply Kd.R_alloc | apply Kd.R_drewN | apply Kd.R_drew)); exact Kd.R_mono HO248.out (fun _ hk => hk.2))); (case aS => exact (below_size (by repeat (first | (with_reducible first | exact HB.out | apply below_alloc | apply pw_below_drewN | apply below_drew1) | exact HB.out)))); (case aL => have := LMc5.out; omega); intro v253 w10 ho hb hg hat; rw [← Ny252.out] at ho; have n0_ := Aside0.mk (Kd.R_after (ok := (fun _ => True)) (by (with_reducible repeat (first | apply Kd.R_alloc | apply Kd.R_drewN | apply Kd.R_drew)); exact HO251.out) hg hat); have n1_ := Aside0.mk (hb); have n2_ := Aside0.mk (ho); clear HO251; clear HB; clear HO248; have HO251 := n0_; have HB := n1_; have HO254 := n2_; clear n0_ n1_ n2_; clear ho hb hg hat; obtain ⟨Ao12, co12, eo12⟩ := Kd.R_slice HO254.out; subst eo12) | ((with_reducible refine gate_callee (f := 68) rfl ?_); refine goesL_ (some 10) rfl rfl Try.func68 (by kernel_rfl) rfl #[.slice Ao12 y252.length co12] rfl (by (try simp only [List.map_toArray, List.map_cons, List.map_nil]); first | done | rfl | (simp only [List.length_drop, List.length_take]; rfl)) ?_; (with_reducible refine (sets_Norm.calls k (fun k_ => some k_ = (.slice Ao12 y252.length co12 : Value).ownBlock) (.slice Ao12 y252.length co12) y252 t255 t258 w _ ?side1 ?side2 A6.out).mono ?_); (case side1 => repeat (first | (with_reducible first | exact HB.out | apply below_alloc | apply pw_below_drewN | apply below_drew1) | exact HB.out)); (case side2 => exact Kd.R_tight rfl HO254.out); rintro e w13 ⟨v256, rfl, ho0, hy0, hb, hkp⟩; refine ⟨_, rfl, ?_⟩; have n0_ := Aside0.mk (Kd.R_mono (ok' := fun k_ => some k_ ≠ (.slice Ao12 y252.length co12 : Value).ownBlock ∧ some k_ ≠ (v256 : Value).ownBlock) (Kd.R_keptB (HO251.out) hkp (fun k_ hk_ hs_ => (hk_.2) hs_)) (fun k_ hk_ => ⟨hk_.1.2, fun e_ => Or.elim (ho0.1 k_ e_.symm).1 (fun hs_ => hk_.2.1 hs_) (fun hn_ => Nat.not_le.2 hk_.2.2 hn_)⟩)); have n1_ := Aside0.mk (Kd.R_reok rfl hy0 (fun k_ e_ => HO254.out.1 k_ e_)); have n2_ := Aside0.mk (Kd.R_mono (ok' := fun k_ => some k_ ≠ (.slice Ao11 t249.length co11 : Value).ownBlock ∧ some k_ ≠ (.slice Ao12 y252.length co12 : Value).ownBlock) ho0 (fun k_ hk_ => ⟨Or.elim hk_.1 (fun hs_ => fun e_ => (((HO251.out).1 k_ e_.symm).2) hs_) (fun hn_ => (Kd.fresh' (Kd.R_lt (by (with_reducible repeat (first | apply Kd.R_alloc | apply Kd.R_drewN | apply Kd.R_drew)); exact HO251.out)) k_ hn_)), hk_.2⟩)); have n3_ := Aside0.mk (hb); clear HO251; clear HO254; clear HB; have HO251 := n0_; have HO254 := n1_; have HO257 := n2_; have HB := n3_; clear n0_ n1_ n2_ n3_; (try clear hb); (try clear hkp); (try clear ho0); (try clear hy0); obtain ⟨Ao14, co14, eo14⟩ := Kd.R_slice HO257.out; subst eo14) | ((with_reducible refine gate_callee (f := 67) rfl ?_); refine goesL_ (some 11) rfl rfl Try.func67 (by kernel_rfl) rfl #[.slice Ao14 t255.length co14] rfl (by (try simp only [List.map_toArray, List.map_cons, List.map_nil]); first | done | rfl | (simp only [List.length_drop, List.length_take]; rfl)) ?_; (with_reducible refine (spans_back.calls k _ _ t255 t259 _ ?side1 ?side2 A7.out).mono ?_); (case side1 => repeat (first | exact (Kd.R_reads' HO257.out).2.2 | (with_reducible refine Kd.C_alloc ?_ _) | (with_reducible refine Kd.C_drewN ?_ _) | (with_reducible refine Kd.C_drew ?_))); (case side2 => exact (Kd.R_reads' HO257.out).2.1); rintro e w15 ⟨v260, rfl, ho0, hb⟩; refine ⟨_, rfl, ?_⟩; have n0_ := Aside0.mk (Kd.R_below (by (with_reducible repeat (first | apply Kd.R_alloc | apply Kd.R_drewN | apply Kd.R_drew)); exact HO251.out) hb); have n1_ := Aside0.mk (Kd.R_below (by (with_reducible repeat (first | apply Kd.R_alloc | apply Kd.R_drewN | apply Kd.R_drew)); exact HO254.out) hb); have n2_ := Aside0.mk (Kd.R_below (by (with_reducible repeat (first | apply Kd.R_alloc | apply Kd.R_drewN | apply Kd.R_drew)); exact HO257.out) hb); have n3_ := Aside0.mk (Kd.R_lower ho0 (below_size (by repeat (first | (with_reducible first | exact HB.out | apply below_alloc | apply pw_below_drewN | apply below_drew1) | exact HB.out)))); have n4_ := Aside0.mk (below_step (by repeat (first | (with_reducible first | exact HB.out | apply below_alloc | apply pw_below_drewN | apply below_drew1) | exact HB.out)) hb); clear HO251; clear HO254; clear HO257; clear HB; have HO251 := n0_; have HO254 := n1_; have HO257 := n2_; have HO261 := n3_; have HB := n4_; clear n0_ n1_ n2_ n3_ n4_; (try clear hb); (try clear hb2); (try clear hk); (try clear hi); (try clear ho0)))
    go_ret
    exact ⟨_, by first | rfl | (simp [errW_none, errW_some] <;> rfl) | (simp [*, errW_none, errW_some] <;> rfl), by (with_reducible repeat (first | apply Kd.R_alloc | apply Kd.R_drewN | apply Kd.R_drew)); exact HO261.out, by repeat (first | (with_reducible first | exact HB.out | apply below_alloc | apply pw_below_drewN | apply below_drew1) | exact HB.out)⟩
  · rw [if_neg c5] at H
    exact absurd H (by simp)
set_option maxHeartbeats 8000000 in
set_option maxRecDepth 100000 in
theorem R3Union.calls (k k' : Nat) (A0 A1 : Option Addr) (c0 c1 : Nat) (l0 l1 : List S49) (b b' : Bool) (w : World) (hr0 : Kd.C k49 w A0 l0.length l0) (hc0 : l0.length ≤ c0) (hr1 : Kd.C k49 w A1 l1.length l1) (hc1 : l1.length ≤ c1) (h : leadtrailref03_Valid.f k l0 = some b) (h' : leadtrailref03_Valid.f k' l1 = some b') (hok : b = true → ∀ r ∈ l0, okPiece r = true) (hok' : b' = true → ∀ r ∈ l1, okPiece r = true) (hsm : l0.length ≤ 8796093022207) (hsm' : l1.length ≤ 8796093022207) :
    Calls Try.prog 52 #[.slice A0 l0.length c0, .slice A1 l1.length c1] w fun e w' => ∃ v, e = .returned v ∧ Kd.R k49 49 w' w.heap.size (fun _ => True) v (setP (fun i => membersB b l0 i || membersB b' l1 i) 256) ∧ Below w.heap.size w w' := by
  have hM0 := R3Members.calls k A0 c0 l0 b w hr0 hc0 h hok hsm
  have hM1 := fun (w1 : World) (hB : Below w.heap.size w w1) => R3Members.calls k' A1 c1 l1 b' w1 (Kd.C_below hr1 hB) hc1 h' hok' hsm'
  clear hr0 hc0 h hok hr1 hc1 h' hok'
  change Calls Try.prog 77 _ w (fun e w' => e = .returned (.agg (bitsV (membersB b l0))) ∧ _) at hM0
  change ∀ w1, Below w.heap.size w w1 → Calls Try.prog 77 _ w1 (fun e w' => e = .returned (.agg (bitsV (membersB b' l1))) ∧ _) at hM1
  generalize membersB b l0 = p at hM0 ⊢
  generalize membersB b' l1 = q at hM1 ⊢
  go_enter Try.func52, Try.ntmps52
  go_wp2_with (first | (go_at_call 77; refine hM0.mono ?_; rintro e w1 ⟨rfl, hb⟩; clear hM0; have HB2 := Aside0.mk hb; clear hb) | (go_at_call 77; refine (hM1 _ HB2.out).mono ?_; rintro e w2 ⟨rfl, hb⟩; clear hM1; have HB3 := Aside0.mk (below_step HB2.out hb); clear hb HB2))
  have Z : bitsV (fun _ => false) = Try.zeroCells73 := bits_zero.symm
  rw [run_store_blk _ w2.heap.size 73 Try.zeroCells73 (bitsV p) (blk_alloc (blk_new w2 _) _) (hi73 p) (by rw [bits_zero, bitsV_size, bitsV_size]) (bits_one p)]
  have E0 := blk_row _ w2.heap.size _ (bitsV p) (blk_alloc (blk_new w2 (.cells Try.zeroCells73 73)) (.cells Try.zeroCells73 73))
  have E1 : (((w2.alloc (.cells Try.zeroCells73 73)).alloc (.cells Try.zeroCells73 73)).setRow w2.heap.size (bitsV p)).heap[w2.heap.size + 1]? = some (.cells Try.zeroCells73 73) := (setRow_other _ _ _ _ (by omega)).trans (blk_new2 w2 _ _)
  have HB4 := Aside0.mk (below_setRow (below_alloc (below_alloc HB3.out (.cells Try.zeroCells73 73)) (.cells Try.zeroCells73 73)) (below_size HB3.out) (bitsV p))
  have G_ := Aside0.mk (below_size HB3.out)
  clear Z HB3
  generalize (((w2.alloc (.cells Try.zeroCells73 73)).alloc (.cells Try.zeroCells73 73)).setRow w2.heap.size (bitsV p)) = w3 at E0 E1 HB4 ⊢
  generalize w2.heap.size = g at E0 E1 G_ HB4 ⊢
  replace E0 := Aside0.mk E0
  replace E1 := Aside0.mk E1
  go_wp2
  rw [run_store_blk _ (g + 1) 73 Try.zeroCells73 (bitsV q) E1.out (hi73 q) (by rw [bits_zero, bitsV_size, bitsV_size]) (bits_one q)]
  have D0 := Aside0.mk ((setRow_other w3 (g + 1) g (bitsV q) (by omega)).trans E0.out)
  have D1 := Aside0.mk (blk_row w3 (g + 1) _ (bitsV q) E1.out)
  have HB5 := Aside0.mk (below_setRow HB4.out (Nat.le_succ_of_le G_.out) (bitsV q))
  clear E0 E1 HB4
  generalize w3.setRow (g + 1) (bitsV q) = w4 at D0 D1 HB5 ⊢
  go_wp2
  go_loopg [7] 257 (fun kq v7 w' => ∃ n : Nat, v7 = .int .i64 (n : Int) ∧ Aside0 (n + kq = 257) ∧ Aside0 (n ≤ 256) ∧ Aside0 (w'.heap[g]? = some (.cells (bitsV fun j => if j < n then (p j || q j) else p j) 73 (0, 0))) ∧ Aside0 (w'.heap[g + 1]? = some (.cells (bitsV q) 73 (0, 0))) ∧ Aside0 (Below w.heap.size w w'))
  case atStart => exact ⟨0, rfl, ⟨by omega⟩, ⟨by omega⟩, ⟨by simpa using D0.out⟩, D1, HB5⟩
  case round =>
    clear D0 D1 HB5
    obtain ⟨n, rfl, HN, HN2, C0, C1, HB'⟩ := hrel
    cases gk with
    | zero => exact absurd HN.out (by have := HN2.out; omega)
    | succ k1 =>
    by_cases c : n ≤ 255
    · have cb : decide ((n : Int) ≤ 255) = true := decide_eq_true (by omega)
      have p2 : (0 ≤ (n : Int)) = True := eq_true (by omega)
      have q2 : ((n : Int) < 256) = True := eq_true (by omega)
      have c_ := Aside0.mk c
      have hc0 := blk_cell C0.out n
      rw [bitsV_get _ _ (by omega), if_neg (Nat.lt_irrefl n)] at hc0
      have hc1 := blk_cell C1.out n
      rw [bitsV_get _ _ (by omega)] at hc1
      have hf0 := blk_frozen C0.out n
      clear c
      have nextB : ∀ v : Bool, v = (p n || q n) → (bitsV fun j => if j < n then (p j || q j) else p j).setIfInBounds n (.bool v) = bitsV fun j => if j < n + 1 then (p j || q j) else p j := fun v hv => (bitsV_set _ _ _).trans (bitsV_congr fun j _ => by
        by_cases e : j = n
        · subst e; rw [if_pos rfl, if_pos (Nat.lt_succ_self _), hv]
        · rw [if_neg e]
          by_cases d : j < n
          · rw [if_pos d, if_pos (by omega)]
          · rw [if_neg d, if_neg (by omega)])
      cases hpn : p n <;> cases hqn : q n <;> rw [hpn] at hc0 nextB <;> rw [hqn] at hc1 nextB
      all_goals
        go_wp2
        have hN := HN.out
        have c := c_.out
        go_roundg k1
        case measure => omega
        case rel => exact ⟨n + 1, by rw [w64' (by omega) (by omega)]; simp, ⟨by omega⟩, ⟨by omega⟩, ⟨blk_put C0.out n _ (nextB _ rfl)⟩, ⟨blk_far C1.out (by simp) _⟩, ⟨below_set HB'.out G_.out⟩⟩
    · have cb : decide ((n : Int) ≤ 255) = false := decide_eq_false (by omega)
      have hn := Aside0.mk (show n = 256 by have := HN.out; have := HN2.out; omega)
      clear c
      go_wp2
      refine wp_load_blk 73 (.tmp 5) rfl g rfl _ C0.out 256 4 hu73 (hi73 _) ?_
      have hS := R3Set.calls (fun j => if j < n then (p j || q j) else p j) wr
      go_wp2_with (go_at_call 70; refine hS.mono ?_; rintro e w9 ⟨v, rfl, ho, hb⟩; have HO9 := Aside0.mk (Kd.R_lower ho (below_size HB'.out)); have HB9 := Aside0.mk (below_step HB'.out hb); clear ho hb hS)
      go_ret
      have eS := setP_congr (p := fun j => if j < n then (p j || q j) else p j) (q := fun j => p j || q j) 256 (fun j hj => by
        have := hn.out
        show (if j < n then (p j || q j) else p j) = _
        rw [if_pos (by omega)])
      exact ⟨v, rfl, by rw [← eS]; exact HO9.out, HB9.out⟩
def leadtrailref03_Union.f (k : Nat) (l0 l1 : List (S49)) : Option (List (S49)) := (leadtrailref03_memb k l0).bind fun p => (leadtrailref03_memb k l1).bind fun q => some (setP (fun i => p i || q i) 256)
theorem leadtrailref03_Union.calls (k : Nat) (A0 : Option Addr) (c0 : Nat) (l0 : List (S49)) (A1 : Option Addr) (c1 : Nat) (l1 : List (S49)) (r : List (S49)) (w : World) (hr0 : Kd.C k49 w A0 l0.length l0) (hc0 : l0.length ≤ c0) (hr1 : Kd.C k49 w A1 l1.length l1) (hc1 : l1.length ≤ c1) (h : leadtrailref03_Union.f k l0 l1 = some r) :
    Calls Try.prog 52 #[.slice A0 l0.length c0, .slice A1 l1.length c1] w fun e w' => ∃ v0_ : Value, e = .returned (v0_) ∧ Kd.R k49 49 w' w.heap.size (fun _ => True) v0_ r ∧ Below w.heap.size w w' := by
  obtain ⟨p, h1, h2⟩ := Option.bind_eq_some_iff.mp h
  obtain ⟨q, h3, h4⟩ := Option.bind_eq_some_iff.mp h2
  obtain ⟨b, hv, rfl, hok, hsm⟩ := memb_some h1
  obtain ⟨b', hv', rfl, hok', hsm'⟩ := memb_some h3
  have hh := R3Union.calls k k A0 A1 c0 c1 l0 l1 b b' w hr0 hc0 hr1 hc1 hv hv' hok hok' hsm hsm'
  obtain rfl := Option.some.inj h4
  exact hh
end Go.Proofs.Ytddffjhodiengaa.R
