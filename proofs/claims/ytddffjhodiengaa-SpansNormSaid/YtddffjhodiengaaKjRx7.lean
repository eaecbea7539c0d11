/- Words and walks of this claim, of the text Rx7. -/
import Derived.Test.YtddffjhodiengaaKjRx0
import Derived.Test.YtddffjhodiengaaKjRx1
import Derived.Test.YtddffjhodiengaaKjRx2
import Derived.Test.YtddffjhodiengaaKjRx3
import Derived.Test.YtddffjhodiengaaKjRx4
import Derived.Test.YtddffjhodiengaaKjRx5
import Derived.Test.YtddffjhodiengaaKjRx6
namespace Go.Proofs.Ytddffjhodiengaa.R
open Go.RowKit Go.Proofs.YtddffjhodiengaaW.PrintWords Go.Proofs.YtddffjhodiengaaW.PrintLast Go.Proofs.YtddffjhodiengaaW.PrintMore
attribute [local go_sem] max2_int min2_int max_two min_two max_three min_three max_four min_four
set_option linter.unusedVariables false
set_option linter.unusedSimpArgs false
attribute [local go_sem high] eqA49
def norm3 (l0 : List (S49)) : List (S49) × Int × Int := match l0.findIdx? (fun r => !okPiece r) with | some i => ([], (i : Int), 1) | none => (setP (hasAny l0) 256, 0, 0)
theorem norm3_bad {l0 : List (S49)} {n : Nat} {r : S49} (hn : l0[n]? = some r) (hb : okPiece r = false) (hg : ∀ q ∈ l0.take n, okPiece q = true) : norm3 l0 = ([], (n : Int), 1) := by
  have h : l0.findIdx? (fun r => !okPiece r) = some n := by
    rw [List.findIdx?_eq_some_iff_getElem]
    obtain ⟨hlt, he⟩ := List.getElem?_eq_some_iff.1 hn
    refine ⟨hlt, by rw [he, hb]; rfl, fun j hj => ?_⟩
    have := hg (l0[j]'(by omega)) (by rw [List.mem_take_iff_getElem]; exact ⟨j, by omega, rfl⟩)
    simp [this]
  unfold norm3
  rw [h]
theorem norm3_good {l0 : List (S49)} (hg : ∀ q ∈ l0, okPiece q = true) : norm3 l0 = (setP (hasAny l0) 256, 0, 0) := by
  have h : l0.findIdx? (fun r => !okPiece r) = none := List.findIdx?_eq_none_iff.2 fun r hr => by rw [hg r hr]; rfl
  unfold norm3
  rw [h]
set_option maxHeartbeats 8000000 in
set_option maxRecDepth 100000 in
theorem R3Norm.calls (A0 : Option Addr) (c0 : Nat) (l0 : List S49) (w : World) (hr0 : Kd.C k49 w A0 l0.length l0) (hc0 : l0.length ≤ c0) (hsm : l0.length ≤ 8796093022207) :
    Calls Try.prog 20 #[.slice A0 l0.length c0] w fun e w' => ∃ v0_ r1 r2 r3, norm3 l0 = (r1, r2, r3) ∧ e = .returned (.tuple #[v0_, .int .i64 r2, .int .i64 r3]) ∧ Kd.R k49 49 w' w.heap.size (fun _ => True) v0_ r1 ∧ Below w.heap.size w w' := by
  have HR0 := Aside0.mk hr0
  have HC0 := Aside0.mk hc0
  clear hr0 hc0
  have HB := Aside0.mk (Below.refl w.heap.size w)
  go_enter Try.func20, Try.ntmps20
  go_wp2
  have D0 := blk_new w (.cells Try.zeroCells73 73)
  rw [bits_zero] at D0
  have D := Aside0.mk D0
  clear D0
  have HB1 := Aside0.mk (below_alloc HB.out (.cells Try.zeroCells73 73))
  clear HB
  rw [bits_zero] at HB1
  try rw [bits_zero]
  generalize w.alloc (.cells (bitsV fun _ => false) 73) = w1 at D HB1 ⊢
  go_loopg [6] (l0.length + 1) (fun kq v6 w' => ∃ n : Nat, v6 = .int .i64 (n : Int) ∧ Aside0 (n + kq = l0.length + 1 ∧ n ≤ l0.length) ∧ Aside0 (w'.heap[w.heap.size]? = some (.cells (bitsV fun i => hasAny (l0.take n) i) 73 (0, 0))) ∧ Aside0 (∀ q ∈ l0.take n, okPiece q = true) ∧ Aside0 (Below w.heap.size w w'))
  case atStart => exact ⟨0, rfl, ⟨by omega, by omega⟩, ⟨by simpa [hasAny] using D.out⟩, ⟨by simp⟩, HB1⟩
  case round =>
    clear D HB1
    obtain ⟨n, rfl, HN, C, HG, HB'⟩ := hrel
    have hN := HN.out
    cases gk with
    | zero => exact absurd hN (by omega)
    | succ ko =>
    by_cases c : n < l0.length
    · have p : 0 ≤ (n : Int) := by omega
      have q : (n : Int) < (l0.length : Int) := by omega
      obtain ⟨ad, e, hx0, hx1⟩ := at_T49 (Kd.C_below HR0.out HB'.out) n p q
      cases e
      simp only [Int.toNat_natCast] at hx0 hx1
      have cb : decide ((n : Int) < (l0.length : Int)) = true := decide_eq_true q
      have hnr := Aside0.mk (show l0[n]? = some (rd_T49 l0 n) by simp [rd_T49, List.getD, c])
      have c0_ := Aside0.mk c
      have cb2 : decide (n < l0.length) = true := decide_eq_true c
      clear c hN
      replace p := eq_true p
      replace q := eq_true q
      generalize hrr : rd_T49 l0 n = r at hx0 hx1 hnr ⊢
      replace hrr := Aside0.mk hrr
      by_cases b0 : r.f0 < 0
      · have hF := Aside0.mk (norm3_bad hnr.out (by simp [okPiece]; omega) HG.out)
        replace b0 : decide (r.f0 < 0) = true := decide_eq_true b0
        go_wp2
        repeat (go_quiet (fail); try go_wp2)
        go_ret3
        exact ⟨_, _, _, _, hF.out, rfl, Kd.R_nil _ _ _ _ _, pw_below_drewN HB'.out _⟩
      by_cases b1 : r.f1 < r.f0
      · have hF := Aside0.mk (norm3_bad hnr.out (by simp [okPiece]; omega) HG.out)
        replace b0 : decide (r.f0 < 0) = false := decide_eq_false b0
        replace b1 : decide (r.f1 < r.f0) = true := decide_eq_true b1
        go_wp2
        repeat (go_quiet (fail); try go_wp2)
        go_ret3
        exact ⟨_, _, _, _, hF.out, rfl, Kd.R_nil _ _ _ _ _, pw_below_drewN HB'.out _⟩
      by_cases b2 : 255 < r.f1
      · have hF := Aside0.mk (norm3_bad hnr.out (by simp [okPiece]; omega) HG.out)
        replace b0 : decide (r.f0 < 0) = false := decide_eq_false b0
        replace b1 : decide (r.f1 < r.f0) = false := decide_eq_false b1
        replace b2 : decide (255 < r.f1) = true := decide_eq_true b2
        go_wp2
        repeat (go_quiet (fail); try go_wp2)
        go_ret3
        exact ⟨_, _, _, _, hF.out, rfl, Kd.R_nil _ _ _ _ _, pw_below_drewN HB'.out _⟩
      have hb := Aside0.mk (show 0 ≤ r.f0 ∧ r.f0 ≤ r.f1 ∧ r.f1 ≤ 255 by omega)
      have hr := Aside0.mk (show okPiece r = true by simp [okPiece]; omega)
      replace b0 : decide (r.f0 < 0) = false := decide_eq_false b0
      replace b1 : decide (r.f1 < r.f0) = false := decide_eq_false b1
      replace b2 : decide (255 < r.f1) = false := decide_eq_false b2
      go_wp2
      go_quiet (fail)
      go_wp2
      clear hx0 hx1 b0 b1 b2
      have hb := hb.out
      have e0 : ((r.f0.toNat : Nat) : Int) = r.f0 := Int.toNat_of_nonneg hb.1
      have hm0 : r.f0.toNat ≤ 255 := by omega
      go_loopg [7] (512 - r.f0.toNat) (fun kq v7 w' => ∃ m : Nat, v7 = .int .i64 (m : Int) ∧ Aside0 (m + kq = 512) ∧ Aside0 (r.f0 ≤ m ∧ (m : Int) ≤ r.f1 + 1) ∧ Aside0 (w'.heap[w.heap.size]? = some (.cells (bitsV fun i => hasAny (l0.take n) i || (decide (r.f0 ≤ i) && decide (i < m))) 73 (0, 0))) ∧ Aside0 (Below w.heap.size w w'))
      case atStart => exact ⟨r.f0.toNat, by rw [e0], ⟨by omega⟩, ⟨by omega⟩, ⟨by rw [blk_drewN C.out _, bitsV_congr (fun i _ => (by
          have : (decide (r.f0 ≤ (i : Int)) && decide (i < r.f0.toNat)) = false := by simp <;> omega
          rw [this, Bool.or_false] : hasAny (l0.take n) i = (hasAny (l0.take n) i || (decide (r.f0 ≤ (i : Int)) && decide (i < r.f0.toNat)))))]⟩, ⟨pw_below_drewN HB'.out _⟩⟩
      case round =>
        obtain ⟨m, rfl, HT, HL, D3, HB2⟩ := hrel
        have hL := HL.out
        have hT := HT.out
        obtain ⟨ad2, e2, hx0, hx1⟩ := at_T49 (Kd.C_below HR0.out HB2.out) n (by omega) (by have := c0_.out; omega)
        obtain rfl : ad = ad2 := by injection e2
        simp only [Int.toNat_natCast, hrr.out] at hx0 hx1
        cases gk with
        | zero => exact absurd hT (by omega)
        | succ k1 =>
          by_cases d : (m : Int) ≤ r.f1
          · have db : decide ((m : Int) ≤ r.f1) = true := decide_eq_true d
            have p2 : (0 ≤ (m : Int)) = True := eq_true (by omega)
            have q2 : ((m : Int) < 256) = True := eq_true (by omega)
            have hc := blk_cell D3.out m
            rw [bitsV_get _ _ (by omega)] at hc
            have hf := blk_frozen D3.out m
            have d_ := Aside0.mk d
            clear d hL hT
            go_wp2
            have hL := HL.out
            have hT := HT.out
            have d := d_.out
            go_roundg k1
            case measure => omega
            case rel => exact ⟨m + 1, by rw [w64' (by omega) (by omega)]; simp, ⟨by omega⟩, ⟨by omega⟩, ⟨blk_put D3.out m _ ((bitsV_set _ _ _).trans (bitsV_congr fun i _ => (by
              by_cases hi : i = m
              · subst hi; simp; right; omega
              · rw [if_neg hi]
                have : decide (i < m + 1) = decide (i < m) := by rw [decide_eq_decide]; omega
                rw [this])))⟩, ⟨below_set HB2.out (Nat.le_refl _)⟩⟩
          · have db : decide ((m : Int) ≤ r.f1) = false := decide_eq_false d
            have d_ := Aside0.mk d
            clear d hL hT
            go_wp2
            have hL := HL.out
            have hT := HT.out
            have d := d_.out
            have c := c0_.out
            have hN := HN.out
            go_roundg ko
            case measure => omega
            case rel => exact ⟨n + 1, by rw [w64' (by omega) (by omega)]; simp, ⟨by omega, by omega⟩, ⟨by rw [D3.out, bitsV_congr (fun i _ => (by
              have e1 : l0.take (n + 1) = l0.take n ++ [r] := by rw [List.take_add_one, hnr.out]; rfl
              have e2 : decide (i < m) = decide ((i : Int) ≤ r.f1) := by rw [decide_eq_decide]; omega
              rw [e1, e2]; simp [hasAny, pieceHas] : (hasAny (l0.take n) i || (decide (r.f0 ≤ (i : Int)) && decide (i < m))) = hasAny (l0.take (n + 1)) i))]⟩, ⟨by
                have e1 : l0.take (n + 1) = l0.take n ++ [r] := by rw [List.take_add_one, hnr.out]; rfl
                rw [e1]; intro q hq
                rcases List.mem_append.1 hq with hq | hq
                · exact HG.out q hq
                · rw [List.mem_singleton.1 hq]; exact hr.out⟩, HB2⟩
    · have hn := Aside0.mk (show n = l0.length by omega)
      have cb : decide ((n : Int) < (l0.length : Int)) = false := decide_eq_false (by omega)
      have cb2 : decide (n < l0.length) = false := decide_eq_false c
      have hF := Aside0.mk (norm3_good (l0 := l0) (by have := HG.out; rwa [hn.out, List.take_length] at this))
      clear c hN
      go_wp2
      refine wp_load_blk 73 (.tmp 5) rfl w.heap.size rfl _ C.out 256 4 hu73 (hi73 _) ?_
      have hS := R3Set.calls (fun i => hasAny (l0.take n) i) wr
      go_wp2_with (go_at_call 70; refine hS.mono ?_; rintro e w9 ⟨v, rfl, ho, hb⟩; have HO9 := Aside0.mk (Kd.R_lower ho (below_size HB'.out)); have HB9 := Aside0.mk (below_step HB'.out hb); clear ho hb hS)
      go_ret3
      exact ⟨v, _, _, _, hF.out, rfl, by have := HO9.out; rwa [hn.out, List.take_length] at this, HB9.out⟩
def leadtrailref03_Norm.f (l0 : List (S49)) : Option (List (S49) × Int × Int) := if l0.length ≤ 8796093022207 then some (norm3 l0) else none
theorem leadtrailref03_Norm.calls (A0 : Option Addr) (c0 : Nat) (l0 : List (S49)) (r1 : List (S49)) (r2 : Int) (r3 : Int) (w : World) (hr0 : Kd.C k49 w A0 l0.length l0) (hc0 : l0.length ≤ c0) (h : leadtrailref03_Norm.f l0 = some (r1, r2, r3)) :
    Calls Try.prog 20 #[.slice A0 l0.length c0] w fun e w' => ∃ v0_ : Value, e = .returned (.tuple #[v0_, .int .i64 r2, .int .i64 r3]) ∧ Kd.R k49 49 w' w.heap.size (fun _ => True) v0_ r1 ∧ Below w.heap.size w w' := by
  unfold leadtrailref03_Norm.f at h
  by_cases c : l0.length ≤ 8796093022207
  · rw [if_pos c] at h
    refine (R3Norm.calls A0 c0 l0 w hr0 hc0 c).mono ?_
    rintro e w' ⟨v, q1, q2, q3, hq, rfl, h1, h2⟩
    rw [hq] at h
    obtain ⟨rfl, rfl, rfl⟩ : q1 = r1 ∧ q2 = r2 ∧ q3 = r3 := by simpa using h
    exact ⟨v, rfl, h1, h2⟩
  · rw [if_neg c] at h; cases h
def leadtrailref03_Same.l0 : Nat → List (S49) → List (S49) → Int → Option (Bool)
  | 0, _, _, _ => none
  | k + 1, x0, x1, x5 => if x5 < (x0.length : Int) then (if 0 ≤ x5 then (if x5 < (x1.length : Int) then (if (!(((rd_T49 x0 x5).f0) == ((rd_T49 x1 x5).f0)) || (!(((rd_T49 x0 x5).f1) == ((rd_T49 x1 x5).f1)))) = true then (some false) else (leadtrailref03_Same.l0 k x0 x1 (wrap64 (x5 + 1)))) else (none)) else (none)) else (some true)
def leadtrailref03_Same.f (k : Nat) (l0 : List (S49)) (l1 : List (S49)) : Option (Bool) := if (l0.length : Int) = (l1.length : Int) then (leadtrailref03_Same.l0 k l0 l1 0) else (some false)
set_option maxHeartbeats 8000000 in
set_option maxRecDepth 100000 in
theorem leadtrailref03_Same.calls (k : Nat) (A0 : Option Addr) (c0 : Nat) (l0 : List (S49)) (A1 : Option Addr) (c1 : Nat) (l1 : List (S49)) (r : Bool) (w : World) (hr0 : Kd.C k49 w A0 l0.length l0) (hc0 : l0.length ≤ c0) (hr1 : Kd.C k49 w A1 l1.length l1) (hc1 : l1.length ≤ c1) (h : leadtrailref03_Same.f k l0 l1 = some r) :
    Calls Try.prog 21 #[.slice A0 l0.length c0, .slice A1 l1.length c1] w fun e w' => e = .returned (.bool r) ∧ Drawn0 w w' := by
  have hu49 := Try.underlying49
  have HR0 := Aside0.mk hr0
  have HC0 := Aside0.mk hc0
  clear hr0 hc0
  have HR1 := Aside0.mk hr1
  have HC1 := Aside0.mk hc1
  clear hr1 hc1
  have H : (if (l0.length : Int) = (l1.length : Int) then (leadtrailref03_Same.l0 k l0 l1 0) else (some false)) = some r := h
  clear h
  by_cases c3 : (l0.length : Int) = (l1.length : Int)
  · rw [if_pos c3] at H
    have c3b0 : ((l0.length : Int) == (l1.length : Int)) = true := beq_iff_eq.mpr c3
    have c3b1 : ((l0.length : Int) != (l1.length : Int)) = false := bne_eq_false_iff_eq.mpr c3
    have c3b2 : (l0.length == l1.length) = true := by first | simpa using c3 | (simp at c3 ⊢; omega)
    clear c3
    have H' := Aside0.mk H
    clear H
    go_enter Try.func21, Try.ntmps21
    go_wp2
    repeat (go_quiet (fail); try go_wp2)
    go_loopg [5] k (fun kq v5 w' => ∃ (x5_1 : Int), v5 = .int .i64 x5_1 ∧ Aside0 (leadtrailref03_Same.l0 kq l0 l1 x5_1 = some r) ∧ Aside0 (kq ≤ k) ∧ Drawn0 w w')
    case atStart => exact ⟨(0), (by first | rfl | (simp; done) | (simp [*]; done)), H', ⟨Nat.le_refl _⟩, by repeat (first | exact Drawn0.refl _ | apply Drawn0.step)⟩
    case round =>
      clear H'
      try clear c1
      try clear c2
      try clear p2
      try clear c3
      try clear c3b0
      try clear c3b1
      try clear c3b2
      obtain ⟨x5_1, rfl, HA, HK1, ⟨m1, rfl⟩⟩ := hrel
      cases gk with
      | zero => exact absurd HA.out (by simp [leadtrailref03_Same.l0])
      | succ k1 =>
        have H := HA.out
        clear HA
        simp only [leadtrailref03_Same.l0] at H
        by_cases c4 : x5_1 < (l0.length : Int)
        · rw [if_pos c4] at H
          have c4b0 : decide (x5_1 < (l0.length : Int)) = true := decide_eq_true c4
          clear c4
          by_cases c5 : 0 ≤ x5_1
          · rw [if_pos c5] at H
            have c5b0 : decide (0 ≤ x5_1) = true := decide_eq_true c5
            clear c5
            by_cases c6 : x5_1 < (l1.length : Int)
            · rw [if_pos c6] at H
              have c6b0 : decide (x5_1 < (l1.length : Int)) = true := decide_eq_true c6
              clear c6
              by_cases c7 : (!(((rd_T49 l0 x5_1).f0) == ((rd_T49 l1 x5_1).f0)) || (!(((rd_T49 l0 x5_1).f1) == ((rd_T49 l1 x5_1).f1)))) = true
              · rw [if_pos c7] at H
                have c7b0 : (!(((rd_T49 l0 x5_1).f0) == ((rd_T49 l1 x5_1).f0)) || (!(((rd_T49 l0 x5_1).f1) == ((rd_T49 l1 x5_1).f1)))) = true := c7
                clear c7
                obtain rfl := Option.some.inj H
                have p219 : 0 ≤ (x5_1 : Int) := of_decide_eq_true (by first | (with_reducible assumption) | assumption)
                have q219 : x5_1 < (l0.length : Int) := of_decide_eq_true (by first | (with_reducible assumption) | assumption)
                obtain ⟨ad219, e219, hx219_0, hx219_1⟩ := at_T49 HR0.out x5_1 p219 q219
                cases e219
                replace p219 := eq_true p219
                replace q219 := eq_true q219
                have p220 : 0 ≤ (x5_1 : Int) := of_decide_eq_true (by first | (with_reducible assumption) | assumption)
                have q220 : x5_1 < (l1.length : Int) := of_decide_eq_true (by first | (with_reducible assumption) | assumption)
                obtain ⟨ad220, e220, hx220_0, hx220_1⟩ := at_T49 HR1.out x5_1 p220 q220
                cases e220
                replace p220 := eq_true p220
                replace q220 := eq_true q220
                go_wp2
                repeat (go_quiet (fail); try go_wp2)
                go_ret
                exact ⟨by first | rfl | (simp; done) | (simp [*]; done), by repeat (first | exact Drawn0.refl _ | apply Drawn0.step)⟩
              · rw [if_neg c7] at H
                have c7b0 : (!(((rd_T49 l0 x5_1).f0) == ((rd_T49 l1 x5_1).f0)) || (!(((rd_T49 l0 x5_1).f1) == ((rd_T49 l1 x5_1).f1)))) = false := by simpa using c7
                clear c7
                have H' := Aside0.mk H
                clear H
                have p219 : 0 ≤ (x5_1 : Int) := of_decide_eq_true (by first | (with_reducible assumption) | assumption)
                have q219 : x5_1 < (l0.length : Int) := of_decide_eq_true (by first | (with_reducible assumption) | assumption)
                obtain ⟨ad219, e219, hx219_0, hx219_1⟩ := at_T49 HR0.out x5_1 p219 q219
                cases e219
                replace p219 := eq_true p219
                replace q219 := eq_true q219
                have p220 : 0 ≤ (x5_1 : Int) := of_decide_eq_true (by first | (with_reducible assumption) | assumption)
                have q220 : x5_1 < (l1.length : Int) := of_decide_eq_true (by first | (with_reducible assumption) | assumption)
                obtain ⟨ad220, e220, hx220_0, hx220_1⟩ := at_T49 HR1.out x5_1 p220 q220
                cases e220
                replace p220 := eq_true p220
                replace q220 := eq_true q220
                go_wp2
                repeat (go_quiet (fail); try go_wp2)
                go_roundg k1
                case measure => have := HK1.out; omega
                case rel => exact ⟨(wrap64 (x5_1 + 1)), (by first | rfl | (simp; done) | (simp [*]; done)), H', ⟨by have := HK1.out; omega⟩, by repeat (first | exact Drawn0.refl _ | apply Drawn0.step)⟩
            · rw [if_neg c6] at H
              exact absurd H (by simp)
          · rw [if_neg c5] at H
            exact absurd H (by simp)
        · rw [if_neg c4] at H
          have c4b0 : decide (x5_1 < (l0.length : Int)) = false := decide_eq_false c4
          clear c4
          obtain rfl := Option.some.inj H
          go_wp2
          repeat (go_quiet (fail); try go_wp2)
          go_ret
          exact ⟨by first | rfl | (simp; done) | (simp [*]; done), by repeat (first | exact Drawn0.refl _ | apply Drawn0.step)⟩
  · rw [if_neg c3] at H
    have c3b0 : ((l0.length : Int) == (l1.length : Int)) = false := beq_eq_false_iff_ne.mpr c3
    have c3b1 : ((l0.length : Int) != (l1.length : Int)) = true := bne_iff_ne.mpr c3
    have c3b2 : (l0.length == l1.length) = false := by first | simpa using c3 | (simp at c3 ⊢; omega)
    obtain rfl := Option.some.inj H
    go_enter Try.func21, Try.ntmps21
    go_wp2
    repeat (go_quiet (fail); try go_wp2)
    go_ret
    exact ⟨by first | rfl | (simp; done) | (simp [*]; done), by repeat (first | exact Drawn0.refl _ | apply Drawn0.step)⟩
def leadtraillaw03_SpansNorm.j0 : Nat → List (S49) → Bool → Option (Bool)
  | 0, _, _ => none
  | k + 1, x3, x44 => if x44 = true then (some false) else ((leadtraillaw03_copied.f x3).bind fun t237 => ((spans_Norm.f k t237).bind fun bt240 => (if bt240.2.2 = 0 then ((leadtrailref03_Same.f k bt240.1 x3).bind fun t245 => (some t245)) else (some false))))
def leadtraillaw03_SpansNorm.f (k : Nat) (l0 : List (S49)) : Option (Bool) := (leadtraillaw03_fixed.f k).bind fun t221 => (if t221 = true then ((leadtraillaw03_copied.f l0).bind fun t222 => ((spans_Norm.f k t222).bind fun bt225 => ((leadtrailref03_Norm.f l0).bind fun bt230 => ((leadtrailref03_Same.f k bt225.1 bt230.1).bind fun t235 => (if t235 = true then (if bt225.2.1 = bt230.2.1 then (if bt225.2.2 = bt230.2.2 then ((spans_Valid.f k bt225.1).bind fun t236 => (leadtraillaw03_SpansNorm.j0 k bt225.1 (!t236))) else (leadtraillaw03_SpansNorm.j0 k bt225.1 true)) else (leadtraillaw03_SpansNorm.j0 k bt225.1 true)) else (leadtraillaw03_SpansNorm.j0 k bt225.1 true)))))) else (some false))
set_option maxHeartbeats 8000000 in
set_option maxRecDepth 100000 in
theorem leadtraillaw03_SpansNorm.calls (k : Nat) (A0 : Option Addr) (c0 : Nat) (l0 : List (S49)) (r : Bool) (w : World) (hr0 : Kd.C k49 w A0 l0.length l0) (hc0 : l0.length ≤ c0) (h : leadtraillaw03_SpansNorm.f k l0 = some r) :
    Calls Try.prog 3 #[.slice A0 l0.length c0] w fun e w' => e = .returned (.bool r) ∧ Below w.heap.size w w' := by
  have HR0 := Aside0.mk hr0
  have HC0 := Aside0.mk hc0
  clear hr0 hc0
  have HB := Aside0.mk (Below.refl w.heap.size w)
  have H : ((leadtraillaw03_fixed.f k).bind fun t221 => (if t221 = true then ((leadtraillaw03_copied.f l0).bind fun t222 => ((spans_Norm.f k t222).bind fun bt225 => ((leadtrailref03_Norm.f l0).bind fun bt230 => ((leadtrailref03_Same.f k bt225.1 bt230.1).bind fun t235 => (if t235 = true then (if bt225.2.1 = bt230.2.1 then (if bt225.2.2 = bt230.2.2 then ((spans_Valid.f k bt225.1).bind fun t236 => (leadtraillaw03_SpansNorm.j0 k bt225.1 (!t236))) else (leadtraillaw03_SpansNorm.j0 k bt225.1 true)) else (leadtraillaw03_SpansNorm.j0 k bt225.1 true)) else (leadtraillaw03_SpansNorm.j0 k bt225.1 true)))))) else (some false))) = some r := h
  clear h
  replace H := Option.bind_eq_some_iff.mp H
  obtain ⟨t221, A20, H⟩ := H
  replace H : (if t221 = true then ((leadtraillaw03_copied.f l0).bind fun t222 => ((spans_Norm.f k t222).bind fun bt225 => ((leadtrailref03_Norm.f l0).bind fun bt230 => ((leadtrailref03_Same.f k bt225.1 bt230.1).bind fun t235 => (if t235 = true then (if bt225.2.1 = bt230.2.1 then (if bt225.2.2 = bt230.2.2 then ((spans_Valid.f k bt225.1).bind fun t236 => (leadtraillaw03_SpansNorm.j0 k bt225.1 (!t236))) else (leadtraillaw03_SpansNorm.j0 k bt225.1 true)) else (leadtraillaw03_SpansNorm.j0 k bt225.1 true)) else (leadtraillaw03_SpansNorm.j0 k bt225.1 true)))))) else (some false)) = some r := H
  have A2 := Aside0.mk A20
  clear A20
  by_cases c3 : t221 = true
  · subst c3
    have H1 : ((leadtraillaw03_copied.f l0).bind fun t222 => ((spans_Norm.f k t222).bind fun bt225 => ((leadtrailref03_Norm.f l0).bind fun bt230 => ((leadtrailref03_Same.f k bt225.1 bt230.1).bind fun t235 => (if t235 = true then (if bt225.2.1 = bt230.2.1 then (if bt225.2.2 = bt230.2.2 then ((spans_Valid.f k bt225.1).bind fun t236 => (leadtraillaw03_SpansNorm.j0 k bt225.1 (!t236))) else (leadtraillaw03_SpansNorm.j0 k bt225.1 true)) else (leadtraillaw03_SpansNorm.j0 k bt225.1 true)) else (leadtraillaw03_SpansNorm.j0 k bt225.1 true)))))) = some r := by rw [if_pos rfl] at H; exact H
    clear H
    have H := H1
    clear H1
    replace H := Option.bind_eq_some_iff.mp H
    obtain ⟨t222, A40, H⟩ := H
    replace H : ((spans_Norm.f k t222).bind fun bt225 => ((leadtrailref03_Norm.f l0).bind fun bt230 => ((leadtrailref03_Same.f k bt225.1 bt230.1).bind fun t235 => (if t235 = true then (if bt225.2.1 = bt230.2.1 then (if bt225.2.2 = bt230.2.2 then ((spans_Valid.f k bt225.1).bind fun t236 => (leadtraillaw03_SpansNorm.j0 k bt225.1 (!t236))) else (leadtraillaw03_SpansNorm.j0 k bt225.1 true)) else (leadtraillaw03_SpansNorm.j0 k bt225.1 true)) else (leadtraillaw03_SpansNorm.j0 k bt225.1 true))))) = some r := H
    have A4 := Aside0.mk A40
    clear A40
    replace H := Option.bind_eq_some_iff.mp H
    obtain ⟨⟨t225, t226, t227⟩, A50, H⟩ := H
    replace H : ((leadtrailref03_Norm.f l0).bind fun bt230 => ((leadtrailref03_Same.f k t225 bt230.1).bind fun t235 => (if t235 = true then (if t226 = bt230.2.1 then (if t227 = bt230.2.2 then ((spans_Valid.f k t225).bind fun t236 => (leadtraillaw03_SpansNorm.j0 k t225 (!t236))) else (leadtraillaw03_SpansNorm.j0 k t225 true)) else (leadtraillaw03_SpansNorm.j0 k t225 true)) else (leadtraillaw03_SpansNorm.j0 k t225 true)))) = some r := H
    have A5 := Aside0.mk A50
    clear A50
    replace H := Option.bind_eq_some_iff.mp H
    obtain ⟨⟨t230, t231, t232⟩, A60, H⟩ := H
    replace H : ((leadtrailref03_Same.f k t225 t230).bind fun t235 => (if t235 = true then (if t226 = t231 then (if t227 = t232 then ((spans_Valid.f k t225).bind fun t236 => (leadtraillaw03_SpansNorm.j0 k t225 (!t236))) else (leadtraillaw03_SpansNorm.j0 k t225 true)) else (leadtraillaw03_SpansNorm.j0 k t225 true)) else (leadtraillaw03_SpansNorm.j0 k t225 true))) = some r := H
    have A6 := Aside0.mk A60
    clear A60
    have HC7 := Aside0.mk H
    clear H
    go_enter Try.func3, Try.ntmps3
    go_upto_region 5 with (first | ((with_reducible refine gate_callee (f := 17) rfl ?_); refine goesL_ (some 11) rfl rfl Try.func17 (by kernel_rfl) rfl #[] rfl (by (try simp only [List.map_toArray, List.map_cons, List.map_nil]); first | done | rfl | (simp only [List.length_drop, List.length_take]; rfl)) ?_; (with_reducible refine (leadtraillaw03_fixed.calls k  true _ A2.out).mono ?_); rintro e w8 ⟨rfl, hb⟩; refine ⟨_, rfl, ?_⟩; have n0_ := Aside0.mk (below_step (by repeat (first | (with_reducible first | exact HB.out | apply below_alloc | apply pw_below_drewN | apply below_drew1) | exact HB.out)) hb); clear HB; have HB := n0_; clear n0_; (try clear hb); (try clear hb2); (try clear hk); (try clear hi)) | ((with_reducible refine gate_callee (f := 19) rfl ?_); refine goesL_ (some 15) rfl rfl Try.func19 (by kernel_rfl) rfl #[.slice A0 l0.length c0] rfl (by (try simp only [List.map_toArray, List.map_cons, List.map_nil]); first | done | rfl | (simp only [List.length_drop, List.length_take]; rfl)) ?_; (with_reducible refine (leadtraillaw03_copied.calls _ _ l0 t222 _ ?side1 ?side2 A4.out).mono ?_); (case side1 => repeat (first | exact (Kd.C_below HR0.out HB.out) | (with_reducible refine Kd.C_alloc ?_ _) | (with_reducible refine Kd.C_drewN ?_ _) | (with_reducible refine Kd.C_drew ?_))); (case side2 => exact HC0.out); rintro e w9 ⟨v223, rfl, ho0, hb⟩; refine ⟨_, rfl, ?_⟩; have n0_ := Aside0.mk (Kd.R_lower ho0 (below_size (by repeat (first | (with_reducible first | exact HB.out | apply below_alloc | apply pw_below_drewN | apply below_drew1) | exact HB.out)))); have n1_ := Aside0.mk (below_step (by repeat (first | (with_reducible first | exact HB.out | apply below_alloc | apply pw_below_drewN | apply below_drew1) | exact HB.out)) hb); clear HB; have HO224 := n0_; have HB := n1_; clear n0_ n1_; (try clear hb); (try clear hb2); (try clear hk); (try clear hi); (try clear ho0); obtain ⟨Ao10, co10, eo10⟩ := Kd.R_slice HO224.out; subst eo10) | ((with_reducible refine gate_callee (f := 18) rfl ?_); refine goesL_ (some 16) rfl rfl Try.func18 (by kernel_rfl) rfl #[.slice Ao10 t222.length co10] rfl (by (try simp only [List.map_toArray, List.map_cons, List.map_nil]); first | done | rfl | (simp only [List.length_drop, List.length_take]; rfl)) ?_; (with_reducible refine (spans_Norm.calls k _ _ t222 t225 t226 t227 _ ?side1 ?side2 A5.out).mono ?_); (case side1 => repeat (first | exact (Kd.R_reads' HO224.out).2.2 | (with_reducible refine Kd.C_alloc ?_ _) | (with_reducible refine Kd.C_drewN ?_ _) | (with_reducible refine Kd.C_drew ?_))); (case side2 => exact (Kd.R_reads' HO224.out).2.1); rintro e w11 ⟨v228, rfl, ho0, hb⟩; refine ⟨_, rfl, ?_⟩; have n0_ := Aside0.mk (Kd.R_elder' (by (with_reducible repeat (first | apply Kd.R_alloc | apply Kd.R_drewN | apply Kd.R_drew)); exact HO224.out) (Kd.R_base ho0) hb); have n1_ := Aside0.mk (Kd.R_lower (Kd.R_new' ho0 (Kd.R_lt (by (with_reducible repeat (first | apply Kd.R_alloc | apply Kd.R_drewN | apply Kd.R_drew)); exact HO224.out))) (below_size (by repeat (first | (with_reducible first | exact HB.out | apply below_alloc | apply pw_below_drewN | apply below_drew1) | exact HB.out)))); have n2_ := Aside0.mk (below_step (by repeat (first | (with_reducible first | exact HB.out | apply below_alloc | apply pw_below_drewN | apply below_drew1) | exact HB.out)) hb); clear HO224; clear HB; have HO224 := n0_; have HO229 := n1_; have HB := n2_; clear n0_ n1_ n2_; (try clear hb); (try clear hb2); (try clear hk); (try clear hi); (try clear ho0)) | ((with_reducible refine gate_callee (f := 20) rfl ?_); refine goesL_ (some 22) rfl rfl Try.func20 (by kernel_rfl) rfl #[.slice A0 l0.length c0] rfl (by (try simp only [List.map_toArray, List.map_cons, List.map_nil]); first | done | rfl | (simp only [List.length_drop, List.length_take]; rfl)) ?_; (with_reducible refine (leadtrailref03_Norm.calls _ _ l0 t230 t231 t232 _ ?side1 ?side2 A6.out).mono ?_); (case side1 => repeat (first | exact (Kd.C_below HR0.out HB.out) | (with_reducible refine Kd.C_alloc ?_ _) | (with_reducible refine Kd.C_drewN ?_ _) | (with_reducible refine Kd.C_drew ?_))); (case side2 => exact HC0.out); rintro e w12 ⟨v233, rfl, ho0, hb⟩; refine ⟨_, rfl, ?_⟩; have n0_ := Aside0.mk (Kd.R_elder' (by (with_reducible repeat (first | apply Kd.R_alloc | apply Kd.R_drewN | apply Kd.R_drew)); exact HO224.out) (Kd.R_base ho0) hb); have n1_ := Aside0.mk (Kd.R_elder' (by (with_reducible repeat (first | apply Kd.R_alloc | apply Kd.R_drewN | apply Kd.R_drew)); exact HO229.out) (Kd.R_base ho0) hb); have n2_ := Aside0.mk (Kd.R_lower (Kd.R_new' (Kd.R_new' ho0 (Kd.R_lt (by (with_reducible repeat (first | apply Kd.R_alloc | apply Kd.R_drewN | apply Kd.R_drew)); exact HO224.out))) (Kd.R_lt (by (with_reducible repeat (first | apply Kd.R_alloc | apply Kd.R_drewN | apply Kd.R_drew)); exact HO229.out))) (below_size (by repeat (first | (with_reducible first | exact HB.out | apply below_alloc | apply pw_below_drewN | apply below_drew1) | exact HB.out)))); have n3_ := Aside0.mk (below_step (by repeat (first | (with_reducible first | exact HB.out | apply below_alloc | apply pw_below_drewN | apply below_drew1) | exact HB.out)) hb); clear HO224; clear HO229; clear HB; have HO224 := n0_; have HO229 := n1_; have HO234 := n2_; have HB := n3_; clear n0_ n1_ n2_ n3_; (try clear hb); (try clear hb2); (try clear hk); (try clear hi); (try clear ho0)))
    (try simp only [Act.put, List.setIfInBounds_toArray, List.set_cons_zero, List.set_cons_succ])
    go_cut [44] (fun v44 wc => ∃ (kq : Nat) (x44_6 : Bool), v44 = .bool x44_6 ∧ Aside0 (leadtraillaw03_SpansNorm.j0 kq t225 x44_6 = some r) ∧ Aside0 (kq ≤ k) ∧ Aside0 (Kd.R k49 49 wc w.heap.size (fun _ => True) v228 t225) ∧ Aside0 (Below w.heap.size w wc))
    case first =>
      have H := HC7.out
      clear HC7
      replace H := Option.bind_eq_some_iff.mp H
      obtain ⟨t235, A130, H⟩ := H
      replace H : (if t235 = true then (if t226 = t231 then (if t227 = t232 then ((spans_Valid.f k t225).bind fun t236 => (leadtraillaw03_SpansNorm.j0 k t225 (!t236))) else (leadtraillaw03_SpansNorm.j0 k t225 true)) else (leadtraillaw03_SpansNorm.j0 k t225 true)) else (leadtraillaw03_SpansNorm.j0 k t225 true)) = some r := H
      have A13 := Aside0.mk A130
      clear A130
      by_cases c14 : t235 = true
      · subst c14
        have H1 : (if t226 = t231 then (if t227 = t232 then ((spans_Valid.f k t225).bind fun t236 => (leadtraillaw03_SpansNorm.j0 k t225 (!t236))) else (leadtraillaw03_SpansNorm.j0 k t225 true)) else (leadtraillaw03_SpansNorm.j0 k t225 true)) = some r := by rw [if_pos rfl] at H; exact H
        clear H
        have H := H1
        clear H1
        by_cases c15 : t226 = t231
        · rw [if_pos c15] at H
          have c15b0 : (t226 == t231) = true := beq_iff_eq.mpr c15
          have c15b1 : (t226 != t231) = false := bne_eq_false_iff_eq.mpr c15
          clear c15
          (first | rw [c15b0] | (simp only [i64_w, i32_w]; rw [c15b0]) | skip)
          by_cases c16 : t227 = t232
          · rw [if_pos c16] at H
            have c16b0 : (t227 == t232) = true := beq_iff_eq.mpr c16
            have c16b1 : (t227 != t232) = false := bne_eq_false_iff_eq.mpr c16
            clear c16
            replace H := Option.bind_eq_some_iff.mp H
            obtain ⟨t236, A170, H⟩ := H
            replace H : (leadtraillaw03_SpansNorm.j0 k t225 (!t236)) = some r := H
            have A17 := Aside0.mk A170
            clear A170
            have H' := Aside0.mk H
            clear H
            obtain ⟨Ao18, co18, eo18⟩ := Kd.R_slice HO229.out
            subst eo18
            obtain ⟨Ao19, co19, eo19⟩ := Kd.R_slice HO234.out
            subst eo19
            go_wp2_with (first | ((with_reducible refine gate_callee (f := 21) rfl ?_); refine goesL_ (some 28) rfl rfl Try.func21 (by kernel_rfl) rfl #[.slice Ao18 t225.length co18, .slice Ao19 t230.length co19] rfl (by (try simp only [List.map_toArray, List.map_cons, List.map_nil]); first | done | rfl | (simp only [List.length_drop, List.length_take]; rfl)) ?_; (with_reducible refine (leadtrailref03_Same.calls k _ _ t225 _ _ t230 true _ ?side1 ?side2 ?side3 ?side4 A13.out).mono ?_); (case side1 => repeat (first | exact (Kd.R_reads' HO229.out).2.2 | (with_reducible refine Kd.C_alloc ?_ _) | (with_reducible refine Kd.C_drewN ?_ _) | (with_reducible refine Kd.C_drew ?_))); (case side2 => exact (Kd.R_reads' HO229.out).2.1); (case side3 => repeat (first | exact (Kd.R_reads' HO234.out).2.2 | (with_reducible refine Kd.C_alloc ?_ _) | (with_reducible refine Kd.C_drewN ?_ _) | (with_reducible refine Kd.C_drew ?_))); (case side4 => exact (Kd.R_reads' HO234.out).2.1); rintro e w' ⟨rfl, ⟨nd, rfl⟩⟩; refine ⟨_, rfl, ?_⟩) | (go_at_call 22; (with_reducible refine (spans_Valid.calls k _ _ t225 t236 _ ?side1 ?side2 A17.out).mono ?_); (case side1 => repeat (first | exact (Kd.R_reads' HO229.out).2.2 | (with_reducible refine Kd.C_alloc ?_ _) | (with_reducible refine Kd.C_drewN ?_ _) | (with_reducible refine Kd.C_drew ?_))); (case side2 => exact (Kd.R_reads' HO229.out).2.1); rintro e w20 ⟨rfl, hb⟩; have n0_ := Aside0.mk (Kd.R_below (by (with_reducible repeat (first | apply Kd.R_alloc | apply Kd.R_drewN | apply Kd.R_drew)); exact HO224.out) hb); have n1_ := Aside0.mk (Kd.R_below (by (with_reducible repeat (first | apply Kd.R_alloc | apply Kd.R_drewN | apply Kd.R_drew)); exact HO229.out) hb); have n2_ := Aside0.mk (Kd.R_below (by (with_reducible repeat (first | apply Kd.R_alloc | apply Kd.R_drewN | apply Kd.R_drew)); exact HO234.out) hb); have n3_ := Aside0.mk (below_step (by repeat (first | (with_reducible first | exact HB.out | apply below_alloc | apply pw_below_drewN | apply below_drew1) | exact HB.out)) hb); clear HO224; clear HO229; clear HO234; clear HB; have HO224 := n0_; have HO229 := n1_; have HO234 := n2_; have HB := n3_; clear n0_ n1_ n2_ n3_; (try clear hb); (try clear hb2); (try clear hk); (try clear hi)))
            go_meet
            case rel => exact ⟨_, (!t236), (by first | rfl | (simp; done) | (simp [*]; done)), H', ⟨by first | omega | exact Nat.le_refl _⟩, ⟨by (with_reducible repeat (first | apply Kd.R_alloc | apply Kd.R_drewN | apply Kd.R_drew)); exact Kd.R_mono HO229.out (fun _ hk => trivial)⟩, ⟨by repeat (first | (with_reducible first | exact HB.out | apply below_alloc | apply pw_below_drewN | apply below_drew1) | exact HB.out)⟩⟩
          · rw [if_neg c16] at H
            have c16b0 : (t227 == t232) = false := beq_eq_false_iff_ne.mpr c16
            have c16b1 : (t227 != t232) = true := bne_iff_ne.mpr c16
            have H' := Aside0.mk H
            clear H
            obtain ⟨Ao21, co21, eo21⟩ := Kd.R_slice HO229.out
            subst eo21
            obtain ⟨Ao22, co22, eo22⟩ := Kd.R_slice HO234.out
            subst eo22
            go_wp2_with (first | ((with_reducible refine gate_callee (f := 21) rfl ?_); refine goesL_ (some 28) rfl rfl Try.func21 (by kernel_rfl) rfl #[.slice Ao21 t225.length co21, .slice Ao22 t230.length co22] rfl (by (try simp only [List.map_toArray, List.map_cons, List.map_nil]); first | done | rfl | (simp only [List.length_drop, List.length_take]; rfl)) ?_; (with_reducible refine (leadtrailref03_Same.calls k _ _ t225 _ _ t230 true _ ?side1 ?side2 ?side3 ?side4 A13.out).mono ?_); (case side1 => repeat (first | exact (Kd.R_reads' HO229.out).2.2 | (with_reducible refine Kd.C_alloc ?_ _) | (with_reducible refine Kd.C_drewN ?_ _) | (with_reducible refine Kd.C_drew ?_))); (case side2 => exact (Kd.R_reads' HO229.out).2.1); (case side3 => repeat (first | exact (Kd.R_reads' HO234.out).2.2 | (with_reducible refine Kd.C_alloc ?_ _) | (with_reducible refine Kd.C_drewN ?_ _) | (with_reducible refine Kd.C_drew ?_))); (case side4 => exact (Kd.R_reads' HO234.out).2.1); rintro e w' ⟨rfl, ⟨nd, rfl⟩⟩; refine ⟨_, rfl, ?_⟩))
            go_meet
            case rel => exact ⟨_, (true), (by first | rfl | (simp; done) | (simp [*]; done)), H', ⟨by first | omega | exact Nat.le_refl _⟩, ⟨by (with_reducible repeat (first | apply Kd.R_alloc | apply Kd.R_drewN | apply Kd.R_drew)); exact Kd.R_mono HO229.out (fun _ hk => trivial)⟩, ⟨by repeat (first | (with_reducible first | exact HB.out | apply below_alloc | apply pw_below_drewN | apply below_drew1) | exact HB.out)⟩⟩
        · rw [if_neg c15] at H
          have c15b0 : (t226 == t231) = false := beq_eq_false_iff_ne.mpr c15
          have c15b1 : (t226 != t231) = true := bne_iff_ne.mpr c15
          (first | rw [c15b0] | (simp only [i64_w, i32_w]; rw [c15b0]) | skip)
          have H' := Aside0.mk H
          clear H
          obtain ⟨Ao23, co23, eo23⟩ := Kd.R_slice HO229.out
          subst eo23
          obtain ⟨Ao24, co24, eo24⟩ := Kd.R_slice HO234.out
          subst eo24
          go_wp2_with (first | ((with_reducible refine gate_callee (f := 21) rfl ?_); refine goesL_ (some 28) rfl rfl Try.func21 (by kernel_rfl) rfl #[.slice Ao23 t225.length co23, .slice Ao24 t230.length co24] rfl (by (try simp only [List.map_toArray, List.map_cons, List.map_nil]); first | done | rfl | (simp only [List.length_drop, List.length_take]; rfl)) ?_; (with_reducible refine (leadtrailref03_Same.calls k _ _ t225 _ _ t230 true _ ?side1 ?side2 ?side3 ?side4 A13.out).mono ?_); (case side1 => repeat (first | exact (Kd.R_reads' HO229.out).2.2 | (with_reducible refine Kd.C_alloc ?_ _) | (with_reducible refine Kd.C_drewN ?_ _) | (with_reducible refine Kd.C_drew ?_))); (case side2 => exact (Kd.R_reads' HO229.out).2.1); (case side3 => repeat (first | exact (Kd.R_reads' HO234.out).2.2 | (with_reducible refine Kd.C_alloc ?_ _) | (with_reducible refine Kd.C_drewN ?_ _) | (with_reducible refine Kd.C_drew ?_))); (case side4 => exact (Kd.R_reads' HO234.out).2.1); rintro e w' ⟨rfl, ⟨nd, rfl⟩⟩; refine ⟨_, rfl, ?_⟩))
          go_meet
          case rel => exact ⟨_, (true), (by first | rfl | (simp; done) | (simp [*]; done)), H', ⟨by first | omega | exact Nat.le_refl _⟩, ⟨by (with_reducible repeat (first | apply Kd.R_alloc | apply Kd.R_drewN | apply Kd.R_drew)); exact Kd.R_mono HO229.out (fun _ hk => trivial)⟩, ⟨by repeat (first | (with_reducible first | exact HB.out | apply below_alloc | apply pw_below_drewN | apply below_drew1) | exact HB.out)⟩⟩
      · replace c14 := Bool.eq_false_iff.mpr c14
        subst c14
        have H1 : (leadtraillaw03_SpansNorm.j0 k t225 true) = some r := by rw [if_neg (show ¬ (false = true) by decide)] at H; exact H
        clear H
        have H := H1
        clear H1
        have H' := Aside0.mk H
        clear H
        obtain ⟨Ao25, co25, eo25⟩ := Kd.R_slice HO229.out
        subst eo25
        obtain ⟨Ao26, co26, eo26⟩ := Kd.R_slice HO234.out
        subst eo26
        go_wp2_with (first | ((with_reducible refine gate_callee (f := 21) rfl ?_); refine goesL_ (some 28) rfl rfl Try.func21 (by kernel_rfl) rfl #[.slice Ao25 t225.length co25, .slice Ao26 t230.length co26] rfl (by (try simp only [List.map_toArray, List.map_cons, List.map_nil]); first | done | rfl | (simp only [List.length_drop, List.length_take]; rfl)) ?_; (with_reducible refine (leadtrailref03_Same.calls k _ _ t225 _ _ t230 false _ ?side1 ?side2 ?side3 ?side4 A13.out).mono ?_); (case side1 => repeat (first | exact (Kd.R_reads' HO229.out).2.2 | (with_reducible refine Kd.C_alloc ?_ _) | (with_reducible refine Kd.C_drewN ?_ _) | (with_reducible refine Kd.C_drew ?_))); (case side2 => exact (Kd.R_reads' HO229.out).2.1); (case side3 => repeat (first | exact (Kd.R_reads' HO234.out).2.2 | (with_reducible refine Kd.C_alloc ?_ _) | (with_reducible refine Kd.C_drewN ?_ _) | (with_reducible refine Kd.C_drew ?_))); (case side4 => exact (Kd.R_reads' HO234.out).2.1); rintro e w' ⟨rfl, ⟨nd, rfl⟩⟩; refine ⟨_, rfl, ?_⟩))
        go_meet
        case rel => exact ⟨_, (true), (by first | rfl | (simp; done) | (simp [*]; done)), H', ⟨by first | omega | exact Nat.le_refl _⟩, ⟨by (with_reducible repeat (first | apply Kd.R_alloc | apply Kd.R_drewN | apply Kd.R_drew)); exact Kd.R_mono HO229.out (fun _ hk => trivial)⟩, ⟨by repeat (first | (with_reducible first | exact HB.out | apply below_alloc | apply pw_below_drewN | apply below_drew1) | exact HB.out)⟩⟩
    case rest =>
      clear HC7
      try clear c1
      try clear c2
      try clear p2
      try clear c3
      try clear c14
      try clear c15
      try clear c15b0
      try clear c15b1
      try clear c16
      try clear c16b0
      try clear c16b1
      try clear c17
      try clear c18
      try clear c19
      try clear c20
      try clear c21
      obtain ⟨kq, x44_6, rfl, HA, HJ6, HO_3, HB⟩ := hcut
      cases kq with
      | zero => exact absurd HA.out (by simp [leadtraillaw03_SpansNorm.j0])
      | succ kj6 =>
        have H := HA.out
        clear HA
        simp only [leadtraillaw03_SpansNorm.j0] at H
        by_cases c27 : x44_6 = true
        · subst c27
          have H1 : (some false) = some r := by rw [if_pos rfl] at H; exact H
          clear H
          have H := H1
          clear H1
          obtain rfl := Option.some.inj H
          go_wp2
          go_ret
          exact ⟨by first | rfl | (simp [errW_none, errW_some] <;> rfl) | (simp [*, errW_none, errW_some] <;> rfl), by repeat (first | (with_reducible first | exact HB.out | apply below_alloc | apply pw_below_drewN | apply below_drew1) | exact HB.out)⟩
        · replace c27 := Bool.eq_false_iff.mpr c27
          subst c27
          have H1 : ((leadtraillaw03_copied.f t225).bind fun t237 => ((spans_Norm.f kj6 t237).bind fun bt240 => (if bt240.2.2 = 0 then ((leadtrailref03_Same.f kj6 bt240.1 t225).bind fun t245 => (some t245)) else (some false)))) = some r := by rw [if_neg (show ¬ (false = true) by decide)] at H; exact H
          clear H
          have H := H1
          clear H1
          replace H := Option.bind_eq_some_iff.mp H
          obtain ⟨t237, A280, H⟩ := H
          replace H : ((spans_Norm.f kj6 t237).bind fun bt240 => (if bt240.2.2 = 0 then ((leadtrailref03_Same.f kj6 bt240.1 t225).bind fun t245 => (some t245)) else (some false))) = some r := H
          have A28 := Aside0.mk A280
          clear A280
          replace H := Option.bind_eq_some_iff.mp H
          obtain ⟨⟨t240, t241, t242⟩, A290, H⟩ := H
          replace H : (if t242 = 0 then ((leadtrailref03_Same.f kj6 t240 t225).bind fun t245 => (some t245)) else (some false)) = some r := H
          have A29 := Aside0.mk A290
          clear A290
          by_cases c30 : t242 = 0
          · rw [if_pos c30] at H
            have c30b0 : (t242 == 0) = true := beq_iff_eq.mpr c30
            have c30b1 : (t242 != 0) = false := bne_eq_false_iff_eq.mpr c30
            clear c30
            replace H := Option.bind_eq_some_iff.mp H
            obtain ⟨t245, A310, H⟩ := H
            replace H : (some t245) = some r := H
            have A31 := Aside0.mk A310
            clear A310
            obtain rfl := Option.some.inj H
            obtain ⟨Ao32, co32, eo32⟩ := Kd.R_slice HO_3.out
            subst eo32
            go_wp2_with (first | ((with_reducible refine gate_callee (f := 19) rfl ?_); refine goesL_ (some 47) rfl rfl Try.func19 (by kernel_rfl) rfl #[.slice Ao32 t225.length co32] rfl (by (try simp only [List.map_toArray, List.map_cons, List.map_nil]); first | done | rfl | (simp only [List.length_drop, List.length_take]; rfl)) ?_; (with_reducible refine (leadtraillaw03_copied.calls _ _ t225 t237 _ ?side1 ?side2 A28.out).mono ?_); (case side1 => repeat (first | exact (Kd.R_reads' HO_3.out).2.2 | (with_reducible refine Kd.C_alloc ?_ _) | (with_reducible refine Kd.C_drewN ?_ _) | (with_reducible refine Kd.C_drew ?_))); (case side2 => exact (Kd.R_reads' HO_3.out).2.1); rintro e w33 ⟨v238, rfl, ho0, hb⟩; refine ⟨_, rfl, ?_⟩; have n0_ := Aside0.mk (Kd.R_elder' (by (with_reducible repeat (first | apply Kd.R_alloc | apply Kd.R_drewN | apply Kd.R_drew)); exact HO_3.out) (Kd.R_base ho0) hb); have n1_ := Aside0.mk (Kd.R_lower (Kd.R_new' ho0 (Kd.R_lt (by (with_reducible repeat (first | apply Kd.R_alloc | apply Kd.R_drewN | apply Kd.R_drew)); exact HO_3.out))) (below_size (by repeat (first | (with_reducible first | exact HB.out | apply below_alloc | apply pw_below_drewN | apply below_drew1) | exact HB.out)))); have n2_ := Aside0.mk (below_step (by repeat (first | (with_reducible first | exact HB.out | apply below_alloc | apply pw_below_drewN | apply below_drew1) | exact HB.out)) hb); clear HO_3; clear HB; have HO_3 := n0_; have HO239 := n1_; have HB := n2_; clear n0_ n1_ n2_; (try clear hb); (try clear hb2); (try clear hk); (try clear hi); (try clear ho0); obtain ⟨Ao34, co34, eo34⟩ := Kd.R_slice HO239.out; subst eo34) | ((with_reducible refine gate_callee (f := 18) rfl ?_); refine goesL_ (some 48) rfl rfl Try.func18 (by kernel_rfl) rfl #[.slice Ao34 t237.length co34] rfl (by (try simp only [List.map_toArray, List.map_cons, List.map_nil]); first | done | rfl | (simp only [List.length_drop, List.length_take]; rfl)) ?_; (with_reducible refine (spans_Norm.calls kj6 _ _ t237 t240 t241 t242 _ ?side1 ?side2 A29.out).mono ?_); (case side1 => repeat (first | exact (Kd.R_reads' HO239.out).2.2 | (with_reducible refine Kd.C_alloc ?_ _) | (with_reducible refine Kd.C_drewN ?_ _) | (with_reducible refine Kd.C_drew ?_))); (case side2 => exact (Kd.R_reads' HO239.out).2.1); rintro e w35 ⟨v243, rfl, ho0, hb⟩; refine ⟨_, rfl, ?_⟩; have n0_ := Aside0.mk (Kd.R_elder' (by (with_reducible repeat (first | apply Kd.R_alloc | apply Kd.R_drewN | apply Kd.R_drew)); exact HO_3.out) (Kd.R_base ho0) hb); have n1_ := Aside0.mk (Kd.R_elder' (by (with_reducible repeat (first | apply Kd.R_alloc | apply Kd.R_drewN | apply Kd.R_drew)); exact HO239.out) (Kd.R_base ho0) hb); have n2_ := Aside0.mk (Kd.R_lower (Kd.R_new' (Kd.R_new' ho0 (Kd.R_lt (by (with_reducible repeat (first | apply Kd.R_alloc | apply Kd.R_drewN | apply Kd.R_drew)); exact HO_3.out))) (Kd.R_lt (by (with_reducible repeat (first | apply Kd.R_alloc | apply Kd.R_drewN | apply Kd.R_drew)); exact HO239.out))) (below_size (by repeat (first | (with_reducible first | exact HB.out | apply below_alloc | apply pw_below_drewN | apply below_drew1) | exact HB.out)))); have n3_ := Aside0.mk (below_step (by repeat (first | (with_reducible first | exact HB.out | apply below_alloc | apply pw_below_drewN | apply below_drew1) | exact HB.out)) hb); clear HO_3; clear HO239; clear HB; have HO_3 := n0_; have HO239 := n1_; have HO244 := n2_; have HB := n3_; clear n0_ n1_ n2_ n3_; (try clear hb); (try clear hb2); (try clear hk); (try clear hi); (try clear ho0); obtain ⟨Ao36, co36, eo36⟩ := Kd.R_slice HO244.out; subst eo36) | (go_at_call 21; (with_reducible refine (leadtrailref03_Same.calls kj6 _ _ t240 _ _ t225 t245 _ ?side1 ?side2 ?side3 ?side4 A31.out).mono ?_); (case side1 => repeat (first | exact (Kd.R_reads' HO244.out).2.2 | (with_reducible refine Kd.C_alloc ?_ _) | (with_reducible refine Kd.C_drewN ?_ _) | (with_reducible refine Kd.C_drew ?_))); (case side2 => exact (Kd.R_reads' HO244.out).2.1); (case side3 => repeat (first | exact (Kd.R_reads' HO_3.out).2.2 | (with_reducible refine Kd.C_alloc ?_ _) | (with_reducible refine Kd.C_drewN ?_ _) | (with_reducible refine Kd.C_drew ?_))); (case side4 => exact (Kd.R_reads' HO_3.out).2.1); rintro e w' ⟨rfl, ⟨nd, rfl⟩⟩))
            go_ret
            exact ⟨by first | rfl | (simp [errW_none, errW_some] <;> rfl) | (simp [*, errW_none, errW_some] <;> rfl), by repeat (first | (with_reducible first | exact HB.out | apply below_alloc | apply pw_below_drewN | apply below_drew1) | exact HB.out)⟩
          · rw [if_neg c30] at H
            have c30b0 : (t242 == 0) = false := beq_eq_false_iff_ne.mpr c30
            have c30b1 : (t242 != 0) = true := bne_iff_ne.mpr c30
            obtain rfl := Option.some.inj H
            obtain ⟨Ao37, co37, eo37⟩ := Kd.R_slice HO_3.out
            subst eo37
            go_wp2_with (first | ((with_reducible refine gate_callee (f := 19) rfl ?_); refine goesL_ (some 47) rfl rfl Try.func19 (by kernel_rfl) rfl #[.slice Ao37 t225.length co37] rfl (by (try simp only [List.map_toArray, List.map_cons, List.map_nil]); first | done | rfl | (simp only [List.length_drop, List.length_take]; rfl)) ?_; (with_reducible refine (leadtraillaw03_copied.calls _ _ t225 t237 _ ?side1 ?side2 A28.out).mono ?_); (case side1 => repeat (first | exact (Kd.R_reads' HO_3.out).2.2 | (with_reducible refine Kd.C_alloc ?_ _) | (with_reducible refine Kd.C_drewN ?_ _) | (with_reducible refine Kd.C_drew ?_))); (case side2 => exact (Kd.R_reads' HO_3.out).2.1); rintro e w38 ⟨v238, rfl, ho0, hb⟩; refine ⟨_, rfl, ?_⟩; have n0_ := Aside0.mk (Kd.R_elder' (by (with_reducible repeat (first | apply Kd.R_alloc | apply Kd.R_drewN | apply Kd.R_drew)); exact HO_3.out) (Kd.R_base ho0) hb); have n1_ := Aside0.mk (Kd.R_lower (Kd.R_new' ho0 (Kd.R_lt (by (with_reducible repeat (first | apply Kd.R_alloc | apply Kd.R_drewN | apply Kd.R_drew)); exact HO_3.out))) (below_size (by repeat (first | (with_reducible first | exact HB.out | apply below_alloc | apply pw_below_drewN | apply below_drew1) | exact HB.out)))); have n2_ := Aside0.mk (below_step (by repeat (first | (with_reducible first | exact HB.out | apply below_alloc | apply pw_below_drewN | apply below_drew1) | exact HB.out)) hb); clear HO_3; clear HB; have HO_3 := n0_; have HO239 := n1_; have HB := n2_; clear n0_ n1_ n2_; (try clear hb); (try clear hb2); (try clear hk); (try clear hi); (try clear ho0); obtain ⟨Ao39, co39, eo39⟩ := Kd.R_slice HO239.out; subst eo39) | ((with_reducible refine gate_callee (f := 18) rfl ?_); refine goesL_ (some 48) rfl rfl Try.func18 (by kernel_rfl) rfl #[.slice Ao39 t237.length co39] rfl (by (try simp only [List.map_toArray, List.map_cons, List.map_nil]); first | done | rfl | (simp only [List.length_drop, List.length_take]; rfl)) ?_; (with_reducible refine (spans_Norm.calls kj6 _ _ t237 t240 t241 t242 _ ?side1 ?side2 A29.out).mono ?_); (case side1 => repeat (first | exact (Kd.R_reads' HO239.out).2.2 | (with_reducible refine Kd.C_alloc ?_ _) | (with_reducible refine Kd.C_drewN ?_ _) | (with_reducible refine Kd.C_drew ?_))); (case side2 => exact (Kd.R_reads' HO239.out).2.1); rintro e w40 ⟨v243, rfl, ho0, hb⟩; refine ⟨_, rfl, ?_⟩; have n0_ := Aside0.mk (Kd.R_elder' (by (with_reducible repeat (first | apply Kd.R_alloc | apply Kd.R_drewN | apply Kd.R_drew)); exact HO_3.out) (Kd.R_base ho0) hb); have n1_ := Aside0.mk (Kd.R_elder' (by (with_reducible repeat (first | apply Kd.R_alloc | apply Kd.R_drewN | apply Kd.R_drew)); exact HO239.out) (Kd.R_base ho0) hb); have n2_ := Aside0.mk (Kd.R_lower (Kd.R_new' (Kd.R_new' ho0 (Kd.R_lt (by (with_reducible repeat (first | apply Kd.R_alloc | apply Kd.R_drewN | apply Kd.R_drew)); exact HO_3.out))) (Kd.R_lt (by (with_reducible repeat (first | apply Kd.R_alloc | apply Kd.R_drewN | apply Kd.R_drew)); exact HO239.out))) (below_size (by repeat (first | (with_reducible first | exact HB.out | apply below_alloc | apply pw_below_drewN | apply below_drew1) | exact HB.out)))); have n3_ := Aside0.mk (below_step (by repeat (first | (with_reducible first | exact HB.out | apply below_alloc | apply pw_below_drewN | apply below_drew1) | exact HB.out)) hb); clear HO_3; clear HO239; clear HB; have HO_3 := n0_; have HO239 := n1_; have HO244 := n2_; have HB := n3_; clear n0_ n1_ n2_ n3_; (try clear hb); (try clear hb2); (try clear hk); (try clear hi); (try clear ho0)))
            go_ret
            exact ⟨by first | rfl | (simp [errW_none, errW_some] <;> rfl) | (simp [*, errW_none, errW_some] <;> rfl), by repeat (first | (with_reducible first | exact HB.out | apply below_alloc | apply pw_below_drewN | apply below_drew1) | exact HB.out)⟩
  · replace c3 := Bool.eq_false_iff.mpr c3
    subst c3
    have H1 : (some false) = some r := by rw [if_neg (show ¬ (false = true) by decide)] at H; exact H
    clear H
    have H := H1
    clear H1
    obtain rfl := Option.some.inj H
    go_enter Try.func3, Try.ntmps3
    go_wp2_with (first | ((with_reducible refine gate_callee (f := 17) rfl ?_); refine goesL_ (some 11) rfl rfl Try.func17 (by kernel_rfl) rfl #[] rfl (by (try simp only [List.map_toArray, List.map_cons, List.map_nil]); first | done | rfl | (simp only [List.length_drop, List.length_take]; rfl)) ?_; (with_reducible refine (leadtraillaw03_fixed.calls k  false _ A2.out).mono ?_); rintro e w41 ⟨rfl, hb⟩; refine ⟨_, rfl, ?_⟩; have n0_ := Aside0.mk (below_step (by repeat (first | (with_reducible first | exact HB.out | apply below_alloc | apply pw_below_drewN | apply below_drew1) | exact HB.out)) hb); clear HB; have HB := n0_; clear n0_; (try clear hb); (try clear hb2); (try clear hk); (try clear hi)))
    go_ret
    exact ⟨by first | rfl | (simp [errW_none, errW_some] <;> rfl) | (simp [*, errW_none, errW_some] <;> rfl), by repeat (first | (with_reducible first | exact HB.out | apply below_alloc | apply pw_below_drewN | apply below_drew1) | exact HB.out)⟩
end Go.Proofs.Ytddffjhodiengaa.R
