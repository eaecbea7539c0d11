/- Words and walks of this claim, of the text Rx6. -/
import Derived.Test.YtddffjhodiengaaKiRx0
import Derived.Test.YtddffjhodiengaaKiRx4
import Derived.Test.YtddffjhodiengaaKiRx5
namespace Go.Proofs.Ytddffjhodiengaa.R
open Go.RowKit Go.Proofs.YtddffjhodiengaaW.PrintWords Go.Proofs.YtddffjhodiengaaW.PrintLast Go.Proofs.YtddffjhodiengaaW.PrintMore
attribute [local go_sem] max2_int min2_int max_two min_two max_three min_three max_four min_four
set_option linter.unusedVariables false
set_option linter.unusedSimpArgs false
def setP (p : Nat → Bool) : Nat → List S49
  | 0 => []
  | n + 1 => if p n = true then (if 0 < n ∧ p (n - 1) = true then (setP p n).set ((setP p n).length - 1) ⟨(rd_T49 (setP p n) ((setP p n).length - 1 : Nat)).f0, n⟩ else setP p n ++ [⟨n, n⟩]) else setP p n
theorem setP_len (p : Nat → Bool) : ∀ n, (setP p n).length ≤ n
  | 0 => Nat.le_refl _
  | n + 1 => by
    have := setP_len p n
    simp only [setP]
    split
    · split
      · simp; omega
      · simp; omega
    · omega
theorem setP_pos (p : Nat → Bool) (m : Nat) (h : p m = true) : 0 < (setP p (m + 1)).length := by
  simp only [setP, if_pos h]
  split
  · rename_i hh
    obtain ⟨h1, h2⟩ := hh
    obtain ⟨q, rfl⟩ : ∃ q, m = q + 1 := ⟨m - 1, by omega⟩
    have := setP_pos p q (by simpa using h2)
    simpa using this
  · simp
set_option maxHeartbeats 8000000 in
set_option maxRecDepth 100000 in
theorem R3Set.calls (p : Nat → Bool) (w : World) :
    Calls Try.prog 70 #[.agg (bitsV p)] w fun e w' => ∃ v, e = .returned v ∧ Kd.R k49 49 w' w.heap.size (fun _ => True) v (setP p 256) ∧ Below w.heap.size w w' := by
  have HB := Aside0.mk (Below.refl w.heap.size w)
  go_enter Try.func70, Try.ntmps70
  go_wp2
  have D := Aside0.mk (blk_new w (.cells (bitsV p) 73))
  have HB1 := Aside0.mk (below_alloc HB.out (.cells (bitsV p) 73))
  clear HB
  generalize w.alloc (.cells (bitsV p) 73) = w1 at D HB1 ⊢
  go_loopg [3, 4] 257 (fun kq v3 v4 w' => ∃ n : Nat, v4 = .int .i64 (n : Int) ∧ Aside0 (n + kq = 257) ∧ Aside0 (n ≤ 256) ∧ Aside0 (Kd.R k49 49 w' w.heap.size (fun k_ => k_ ≠ w.heap.size) v3 (setP p n)) ∧ Aside0 (w'.heap[w.heap.size]? = some (.cells (bitsV p) 73 (0, 0))) ∧ Aside0 (Below w.heap.size w w'))
  case atStart => exact ⟨0, rfl, ⟨by omega⟩, ⟨by omega⟩, ⟨Kd.R_nil _ _ _ _ _⟩, D, HB1⟩
  case round =>
    clear D HB1
    obtain ⟨n, rfl, HN, HN2, HO, C, HB'⟩ := hrel
    have hlen := setP_len p n
    cases gk with
    | zero => exact absurd HN.out (by have := HN2.out; omega)
    | succ k1 =>
    by_cases c : n ≤ 255
    · have cb : decide ((n : Int) ≤ 255) = true := decide_eq_true (by omega)
      have p2 : (0 ≤ (n : Int)) = True := eq_true (by omega)
      have q2 : ((n : Int) < 256) = True := eq_true (by omega)
      have c_ := Aside0.mk c
      have hl_ := Aside0.mk hlen
      have hc := blk_cell C.out n
      rw [bitsV_get _ _ (by omega)] at hc
      clear c hlen
      cases hpn : p n with
      | false =>
        rw [hpn] at hc
        go_wp2
        have hN := HN.out
        have c := c_.out
        go_roundg k1
        case measure => omega
        case rel => exact ⟨n + 1, by rw [w64' (by omega) (by omega)]; simp, ⟨by omega⟩, ⟨by omega⟩, ⟨by simp only [setP, hpn, Bool.false_eq_true, if_false]; exact HO.out⟩, C, HB'⟩
      | true =>
        rw [hpn] at hc
        obtain ⟨Ao, co, eo⟩ := Kd.R_slice HO.out
        subst eo
        rcases n with _ | m
        · go_wp2_with (first | ((with_reducible refine gate_builtin (b := .append) (xs := #[.tmp 28, .tmp 32]) rfl ?_); (try (refine gate_guard (by rfl) ?_; dsimp only)); at_builtin; refine Kd.R_append k49 (w0 := w) w.heap.size rfl (.tmp 28) (.tmp 32) 22 49 (.agg #[(.int .i64 0), (.int .i64 0)]) 16 rfl Try.underlying22 info49 rfl (by decide) (by omega) (.slice Ao (setP p 0).length co) (setP p 0) (⟨(0 : Nat), (0 : Nat)⟩ : S49) [.int .i64 (0 : Nat), .int .i64 (0 : Nat)] (fun k_ => k_ ≠ w.heap.size) (fun _ => False) rfl rfl ?aP (fun _ hk => hk.elim) ?aF ?aO ?aB ?aS ?aL ?_; (case aP => exact k49_mkM _ _ _ (⟨(0 : Nat), (0 : Nat)⟩ : S49)); (case aB => exact (by repeat (first | (with_reducible first | exact HB'.out | apply below_alloc | apply pw_below_drewN | apply below_drew1) | exact HB'.out))); (case aF => exact (fun k_ hk_ he_ => by have := blk_lt (show _ = some _ by (with_reducible repeat (first | refine blk_drewN ?_ _ | refine blk_drew ?_ | refine blk_alloc ?_ _)); exact C.out); omega)); (case aO => exact (by (with_reducible repeat (first | apply Kd.R_alloc | apply Kd.R_drewN | apply Kd.R_drew)); exact HO.out)); (case aS => exact (below_size (by repeat (first | (with_reducible first | exact HB'.out | apply below_alloc | apply pw_below_drewN | apply below_drew1) | exact HB'.out)))); (case aL => have := hl_.out; have := c_.out; omega); intro v5 w5 ho hb hg hat; have C5 := Aside0.mk (blk_grown (by (with_reducible repeat (first | refine blk_drewN ?_ _ | refine blk_drew ?_ | refine blk_alloc ?_ _)); exact C.out) hg (fun he_ => HO.out.1 _ he_.symm rfl)); have HO5 := Aside0.mk ho; have HB5 := Aside0.mk hb; clear ho hb hg hat HB' HO C))
          go_roundg k1
          case measure => omega
          case rel => exact ⟨1, rfl, ⟨by have := HN.out; omega⟩, ⟨by omega⟩, ⟨by have := HO5.out; simpa [setP, hpn] using this⟩, C5, HB5⟩
        · have ec : ((m + 1 : Nat) : Int) = (m : Int) + 1 := by omega
          rw [ec] at cb p2 q2 ⊢
          have hc2 := blk_cell C.out m
          rw [bitsV_get _ _ (by have := c_.out; omega)] at hc2
          have p3 : (0 ≤ (m : Int)) = True := eq_true (by omega)
          have q3 : ((m : Int) < 256) = True := eq_true (by have := c_.out; omega)
          have g3 : decide (0 < (m : Int) + 1) = true := decide_eq_true (by omega)
          cases hpm : p m with
          | false =>
            rw [hpm] at hc2
            have hwm : wrap64 (m : Int) = (m : Int) := w64' (by omega) (by have := c_.out; omega)
            go_wp2_with (first | ((with_reducible refine gate_builtin (b := .append) (xs := #[.tmp 28, .tmp 32]) rfl ?_); (try (refine gate_guard (by rfl) ?_; dsimp only)); at_builtin; refine Kd.R_append k49 (w0 := w) w.heap.size rfl (.tmp 28) (.tmp 32) 22 49 (.agg #[(.int .i64 0), (.int .i64 0)]) 16 rfl Try.underlying22 info49 rfl (by decide) (by omega) (.slice Ao (setP p (m + 1)).length co) (setP p (m + 1)) (⟨(m : Int) + 1, (m : Int) + 1⟩ : S49) [.int .i64 ((m : Int) + 1), .int .i64 ((m : Int) + 1)] (fun k_ => k_ ≠ w.heap.size) (fun _ => False) rfl rfl ?aP (fun _ hk => hk.elim) ?aF ?aO ?aB ?aS ?aL ?_; (case aP => exact k49_mkM _ _ _ (⟨(m : Int) + 1, (m : Int) + 1⟩ : S49)); (case aB => exact (by repeat (first | (with_reducible first | exact HB'.out | apply below_alloc | apply pw_below_drewN | apply below_drew1) | exact HB'.out))); (case aF => exact (fun k_ hk_ he_ => by have := blk_lt (show _ = some _ by (with_reducible repeat (first | refine blk_drewN ?_ _ | refine blk_drew ?_ | refine blk_alloc ?_ _)); exact C.out); clear hwm; omega)); (case aO => exact (by (with_reducible repeat (first | apply Kd.R_alloc | apply Kd.R_drewN | apply Kd.R_drew)); exact HO.out)); (case aS => exact (below_size (by repeat (first | (with_reducible first | exact HB'.out | apply below_alloc | apply pw_below_drewN | apply below_drew1) | exact HB'.out)))); (case aL => have := hl_.out; have := c_.out; clear hwm; omega); intro v5 w5 ho hb hg hat; have C5 := Aside0.mk (blk_grown (by (with_reducible repeat (first | refine blk_drewN ?_ _ | refine blk_drew ?_ | refine blk_alloc ?_ _)); exact C.out) hg (fun he_ => HO.out.1 _ he_.symm rfl)); have HO5 := Aside0.mk ho; have HB5 := Aside0.mk hb; clear ho hb hg hat HB' HO C))
            clear hwm
            go_roundg k1
            case measure => omega
            case rel => exact ⟨m + 2, by have := c_.out; rw [w64' (by omega) (by omega)]; simp; omega, ⟨by have := HN.out; omega⟩, ⟨by have := c_.out; omega⟩, ⟨by
              have h := HO5.out
              have e : setP p (m + 2) = setP p (m + 1) ++ [(⟨(m : Int) + 1, (m : Int) + 1⟩ : S49)] := by
                rw [setP, if_pos hpn, if_neg (fun h => by have := h.2; simp [hpm] at this)]; simp
              rw [e]; exact h⟩, C5, HB5⟩
          | true =>
            rw [hpm] at hc2
            have eS : setP p (m + 2) = (setP p (m + 1)).set ((setP p (m + 1)).length - 1) ⟨(rd_T49 (setP p (m + 1)) ((setP p (m + 1)).length - 1 : Nat)).f0, ((m + 1 : Nat) : Int)⟩ := by
              rw [setP, if_pos hpn, if_pos ⟨Nat.succ_pos _, by simpa using hpm⟩]
            have hpos := setP_pos p m hpm
            have hlen := hl_.out
            generalize setP p (m + 1) = xs at eS hpos hlen HO ⊢
            obtain ⟨j, hj⟩ : ∃ j, xs.length = j + 1 := ⟨xs.length - 1, by omega⟩
            obtain ⟨go_, co_, eo_, gb_, gl_, cl_, HG_⟩ := Kd.R_form HO.out (by omega)
            cases eo_
            have hP_ := HO.out.1 go_ rfl
            obtain ⟨ce, hcl, hM, hcc, hfr⟩ := Kd.R_elem HO.out z49 (j : Int) (by omega) (by rw [hj]; omega)
            obtain rfl := k49_openM hM
            have HP := Kd.R_seg HO.out (j : Int) (by omega) (by rw [hj]; omega) (seg := [.int .i64 ((m : Int) + 1)]) (j := 1) hcl hcc (show 2 ≤ 2 from by decide) (x' := (⟨(rd_T49 xs (j : Int)).f0, (m : Int) + 1⟩ : S49)) (k49_mkM _ _ _ (⟨(rd_T49 xs (j : Int)).f0, (m : Int) + 1⟩ : S49)) (fun _ hk => hk)
            have hx1 := hcc 1 _ rfl
            have hf1 := hfr 1
            have hsz : k49.sz = 2 := rfl
            simp only [hsz, Int.toNat_natCast] at hx1 hf1 HP
            have HP_ := Aside0.mk HP
            have eS_ := Aside0.mk eS
            have hj_ := Aside0.mk hj
            have GB_ := Aside0.mk gb_
            have hP2 := Aside0.mk (show go_ ≠ w.heap.size from hP_)
            have hjm := Aside0.mk (show j ≤ m by omega)
            have hwj : wrap64 (j : Int) = (j : Int) := w64' (by omega) (by have := c_.out; omega)
            have hwm : wrap64 (m : Int) = (m : Int) := w64' (by omega) (by have := c_.out; omega)
            have p5 : (0 ≤ (j : Int)) = True := eq_true (by clear hwj hwm; omega)
            rw [hj]
            clear hcc hfr hcl hM HP eS hpos hlen hj gb_ gl_ HG_ hP_ hsz
            go_wp2
            clear hwj hwm
            go_roundg k1
            case measure => omega
            case rel => exact ⟨m + 2, by have := c_.out; rw [w64' (by omega) (by omega)]; simp; omega, ⟨by have := HN.out; omega⟩, ⟨by have := c_.out; omega⟩, ⟨by
              have h := HP_.out.1
              rw [hj_.out] at h
              rw [eS_.out, hj_.out]
              exact h⟩, ⟨blk_far C.out (fun e_ => hP2.out e_.symm) _⟩, ⟨below_set HB'.out GB_.out⟩⟩
    · have cb : decide ((n : Int) ≤ 255) = false := decide_eq_false (by omega)
      have hn := Aside0.mk (show n = 256 by have := HN.out; have := HN2.out; omega)
      clear c hlen
      go_wp2
      go_ret
      have hn := hn.out
      subst hn
      exact ⟨_, rfl, Kd.R_mono HO.out (fun _ _ => trivial), HB'.out⟩
end Go.Proofs.Ytddffjhodiengaa.R
