/- Words and walks of this claim, of the text Bx45. -/
import Derived.Test.YtkcklnmbeinfkaaKrQW0
import Derived.Test.YtkcklnmbeinfkaaKrBx0
import Derived.Test.YtkcklnmbeinfkaaKrBx12
import Derived.Test.YtkcklnmbeinfkaaKrBx26
namespace Go.Proofs.Ytkcklnmbeinfkaa.B
open Go.RowKit Go.Proofs.YtkcklnmbeinfkaaW.PrintWords Go.Proofs.YtkcklnmbeinfkaaW.PrintLast Go.Proofs.YtkcklnmbeinfkaaW.PrintMore
attribute [local go_sem] max2_int min2_int max_two min_two max_three min_three max_four min_four
set_option linter.unusedVariables false
set_option linter.unusedSimpArgs false
def leadtrailref25_Lengths.l0 : Nat → Int → List Int → List (S50) → Option (List Int × Int)
 | 0, _, _, _ => none
 | k + 1, x5, x9, x1200000 => if x5 < (x1200000.length : Int) then (if 0 ≤ x5 then (if 0 ≤ (((rd_T50 x1200000 x5).f0).length : Int) then (if (((rd_T50 x1200000 x5).f0).length : Int) < (x9.length : Int) then ((leadtrailref08_Count.f k ((rd_T50 x1200000 x5).f0) ((rd_T50 x1200000 x5).f1)).bind fun t1207 => (leadtrailref25_Lengths.l0 k (wrap64 (x5 + 1)) (x9.set ((((rd_T50 x1200000 x5).f0).length : Int) : Int).toNat (wrap64 ((rd x9 (((rd_T50 x1200000 x5).f0).length : Int)) + t1207))) x1200000)) else (none)) else (none)) else (none)) else (some (x9, 0))
def leadtrailref25_Lengths.f (k : Nat) (l0_0 : List (S50)) : Option (List Int × Int) := (leadtrailref08_Valid.f k l0_0).bind fun t1200 => (if t1200 = true then (if 9 ≤ 35184372088832 then (leadtrailref25_Lengths.l0 k 0 (List.replicate 9 0) l0_0) else (none)) else (some (([] : List Int), 84)))
def setP (p : Nat → Bool) : Nat → List S113
 | 0 => []
 | n + 1 => if p n = true then (if 0 < n ∧ p (n - 1) = true then (setP p n).set ((setP p n).length - 1) ⟨(rd_T113 (setP p n) ((setP p n).length - 1 : Nat)).f0, n⟩ else setP p n ++ [⟨n, n⟩]) else setP p n
theorem setP_len (p : Nat → Bool) : ∀ n, (setP p n).length ≤ n
 | 0 => Nat.le_refl _
 | n + 1 => by
  have := setP_len p n; simp only [setP]; split
  ·split
   ·simp; omega
   ·simp; omega
  ·omega
theorem setP_pos (p : Nat → Bool) (m : Nat) (h : p m = true) : 0 < (setP p (m + 1)).length := by
 simp only [setP, if_pos h]; split
 ·rename_i hh
  obtain ⟨h1, h2⟩ := hh; obtain ⟨q, rfl⟩ : ∃ q, m = q + 1 := ⟨m - 1, by omega⟩
  have := setP_pos p q (by simpa using h2); simpa using this
 ·simp
set_option maxHeartbeats 8000000 in
set_option maxRecDepth 100000 in
theorem R3Set.calls (p : Nat → Bool) (w : World) :
 Calls Try.prog 83 #[.agg (bitsV p)] w fun e w' => ∃ v, e = .returned v ∧ Kd.R k113 113 w' w.heap.size (fun _ => True) v (setP p 256) ∧ Below w.heap.size w w' := by
 have HB := zk (Below.refl w.heap.size w); go_enter Try.func83, Try.ntmps83
 go_wp2
 have D := zk (blk_new w (.cells (bitsV p) 110)); have HB1 := zk (below_alloc HB.out (.cells (bitsV p) 110)); clear HB; generalize w.alloc (.cells (bitsV p) 110) = w1 at D HB1 ⊢; go_loopg [3, 4] 257 (fun kq v3 v4 w' => ∃ n : Nat, v4 = .int .i64 (n : Int) ∧ Aside0 (n + kq = 257) ∧ Aside0 (n ≤ 256) ∧ Aside0 (Kd.R k113 113 w' w.heap.size (fun k_ => k_ ≠ w.heap.size) v3 (setP p n)) ∧ Aside0 (w'.heap[w.heap.size]? = some (.cells (bitsV p) 110 (0, 0))) ∧ Aside0 (Below w.heap.size w w'))
 case atStart => exact ⟨0, rfl, ⟨by omega⟩, ⟨by omega⟩, ⟨Kd.R_nil _ _ _ _ _⟩, D, HB1⟩
 case round =>
  clear D HB1; obtain ⟨n, rfl, HN, HN2, HO, C, HB'⟩ := hrel; have hlen := setP_len p n
  cases gk with
  | zero => exact absurd HN.out (by have := HN2.out; omega)
  | succ k1 =>
  by_cases c : n ≤ 255
  ·have cb : decide ((n : Int) ≤ 255) = true := decide_eq_true (by omega); have p2 : (0 ≤ (n : Int)) = True := eq_true (by omega); have q2 : ((n : Int) < 256) = True := eq_true (by omega); have c_ := zk c; have hl_ := zk hlen; have hc := blk_cell C.out n; rw [bitsV_get _ _ (by omega)] at hc; clear c hlen; cases hpn : p n with
   | false =>
    rw [hpn] at hc; go_wp2
    have hN := HN.out; have c := c_.out; go_roundg k1
    case measure => omega
    case rel => exact ⟨n + 1, by rw [w64' (by omega) (by omega)]; simp, ⟨by omega⟩, ⟨by omega⟩, ⟨by simp only [setP, hpn, Bool.false_eq_true, if_false]; exact HO.out⟩, C, HB'⟩
   | true =>
    rw [hpn] at hc; obtain ⟨Ao, co, eo⟩ := Kd.R_slice HO.out; subst eo; rcases n with _ | m
    ·go_wp2_with (first | ((with_reducible refine gate_builtin (b := .append) (xs := #[.tmp 28, .tmp 32]) rfl ?_); (try (refine gate_guard (by rfl) ?_; dsimp only)); at_builtin; refine Kd.R_append k113 (w0 := w) w.heap.size rfl (.tmp 28) (.tmp 32) 34 113 (.agg #[(.int .i64 0), (.int .i64 0)]) 16 rfl Try.underlying34 info113 rfl (by decide) (by omega) (.slice Ao (setP p 0).length co) (setP p 0) (⟨(0 : Nat), (0 : Nat)⟩ : S113) [.int .i64 (0 : Nat), .int .i64 (0 : Nat)] (fun k_ => k_ ≠ w.heap.size) (fun _ => False) rfl rfl ?aP (fun _ hk => hk.elim) ?aF ?aO ?aB ?aS ?aL ?_; (case aP => exact k113_mkM _ _ _ (⟨(0 : Nat), (0 : Nat)⟩ : S113)); (case aB => exact (by repeat (first | (with_reducible first | exact HB'.out | apply zD | apply zE | apply zF) | exact HB'.out))); (case aF => exact (fun k_ hk_ he_ => by have := blk_lt (show _ = some _ by (with_reducible repeat (first | refine blk_drewN ?_ _ | refine blk_drew ?_ | refine blk_alloc ?_ _)); exact C.out); omega)); (case aO => exact (zr HO.out)); (case aS => exact (below_size (by repeat (first | (with_reducible first | exact HB'.out | apply zD | apply zE | apply zF) | exact HB'.out)))); (case aL => have := hl_.out; have := c_.out; omega); intro v5 w5 ho hb hg hat; have C5 := zk (blk_grown (by (with_reducible repeat (first | refine blk_drewN ?_ _ | refine blk_drew ?_ | refine blk_alloc ?_ _)); exact C.out) hg (fun he_ => HO.out.1 _ he_.symm rfl)); have HO5 := zk ho; have HB5 := zk hb; clear ho hb hg hat HB' HO C))
     go_roundg k1
     case measure => omega
     case rel => exact ⟨1, rfl, ⟨by have := HN.out; omega⟩, ⟨by omega⟩, ⟨by have := HO5.out; simpa [setP, hpn] using this⟩, C5, HB5⟩
    ·have ec : ((m + 1 : Nat) : Int) = (m : Int) + 1 := by omega
     rw [ec] at cb p2 q2 ⊢; have hc2 := blk_cell C.out m; rw [bitsV_get _ _ (by have := c_.out; omega)] at hc2; have p3 : (0 ≤ (m : Int)) = True := eq_true (by omega); have q3 : ((m : Int) < 256) = True := eq_true (by have := c_.out; omega); have g3 : decide (0 < (m : Int) + 1) = true := decide_eq_true (by omega); cases hpm : p m with
     | false =>
      rw [hpm] at hc2; have hwm : wrap64 (m : Int) = (m : Int) := w64' (by omega) (by have := c_.out; omega); go_wp2_with (first | ((with_reducible refine gate_builtin (b := .append) (xs := #[.tmp 28, .tmp 32]) rfl ?_); (try (refine gate_guard (by rfl) ?_; dsimp only)); at_builtin; refine Kd.R_append k113 (w0 := w) w.heap.size rfl (.tmp 28) (.tmp 32) 34 113 (.agg #[(.int .i64 0), (.int .i64 0)]) 16 rfl Try.underlying34 info113 rfl (by decide) (by omega) (.slice Ao (setP p (m + 1)).length co) (setP p (m + 1)) (⟨(m : Int) + 1, (m : Int) + 1⟩ : S113) [.int .i64 ((m : Int) + 1), .int .i64 ((m : Int) + 1)] (fun k_ => k_ ≠ w.heap.size) (fun _ => False) rfl rfl ?aP (fun _ hk => hk.elim) ?aF ?aO ?aB ?aS ?aL ?_; (case aP => exact k113_mkM _ _ _ (⟨(m : Int) + 1, (m : Int) + 1⟩ : S113)); (case aB => exact (by repeat (first | (with_reducible first | exact HB'.out | apply zD | apply zE | apply zF) | exact HB'.out))); (case aF => exact (fun k_ hk_ he_ => by have := blk_lt (show _ = some _ by (with_reducible repeat (first | refine blk_drewN ?_ _ | refine blk_drew ?_ | refine blk_alloc ?_ _)); exact C.out); clear hwm; omega)); (case aO => exact (zr HO.out)); (case aS => exact (below_size (by repeat (first | (with_reducible first | exact HB'.out | apply zD | apply zE | apply zF) | exact HB'.out)))); (case aL => have := hl_.out; have := c_.out; clear hwm; omega); intro v5 w5 ho hb hg hat; have C5 := zk (blk_grown (by (with_reducible repeat (first | refine blk_drewN ?_ _ | refine blk_drew ?_ | refine blk_alloc ?_ _)); exact C.out) hg (fun he_ => HO.out.1 _ he_.symm rfl)); have HO5 := zk ho; have HB5 := zk hb; clear ho hb hg hat HB' HO C))
      clear hwm; go_roundg k1
      case measure => omega
      case rel => exact ⟨m + 2, by have := c_.out; rw [w64' (by omega) (by omega)]; simp; omega, ⟨by have := HN.out; omega⟩, ⟨by have := c_.out; omega⟩, ⟨by
       have h := HO5.out; have e : setP p (m + 2) = setP p (m + 1) ++ [(⟨(m : Int) + 1, (m : Int) + 1⟩ : S113)] := by
        rw [setP, if_pos hpn, if_neg (fun h => by have := h.2; simp [hpm] at this)]; simp
       rw [e]; exact h⟩, C5, HB5⟩
     | true =>
      rw [hpm] at hc2; have eS : setP p (m + 2) = (setP p (m + 1)).set ((setP p (m + 1)).length - 1) ⟨(rd_T113 (setP p (m + 1)) ((setP p (m + 1)).length - 1 : Nat)).f0, ((m + 1 : Nat) : Int)⟩ := by
       rw [setP, if_pos hpn, if_pos ⟨Nat.succ_pos _, by simpa using hpm⟩]
      have hpos := setP_pos p m hpm; have hlen := hl_.out; generalize setP p (m + 1) = xs at eS hpos hlen HO ⊢; obtain ⟨j, hj⟩ : ∃ j, xs.length = j + 1 := ⟨xs.length - 1, by omega⟩
      obtain ⟨go_, co_, eo_, gb_, gl_, cl_, HG_⟩ := Kd.R_form HO.out (by omega); cases eo_; have hP_ := HO.out.1 go_ rfl; obtain ⟨ce, hcl, hM, hcc, hfr⟩ := Kd.R_elem HO.out z113 (j : Int) (by omega) (by rw [hj]; omega); obtain rfl := k113_openM hM; have HP := Kd.R_seg HO.out (j : Int) (by omega) (by rw [hj]; omega) (seg := [.int .i64 ((m : Int) + 1)]) (j := 1) hcl hcc (show 2 ≤ 2 from by decide) (x' := (⟨(rd_T113 xs (j : Int)).f0, (m : Int) + 1⟩ : S113)) (k113_mkM _ _ _ (⟨(rd_T113 xs (j : Int)).f0, (m : Int) + 1⟩ : S113)) (fun _ hk => hk); have hx1 := hcc 1 _ rfl; have hf1 := hfr 1; have hsz : k113.sz = 2 := rfl; simp only [hsz, Int.toNat_natCast] at hx1 hf1 HP; have HP_ := zk HP; have eS_ := zk eS; have hj_ := zk hj; have GB_ := zk gb_; have hP2 := zk (show go_ ≠ w.heap.size from hP_); have hjm := zk (show j ≤ m by omega); have hwj : wrap64 (j : Int) = (j : Int) := w64' (by omega) (by have := c_.out; omega); have hwm : wrap64 (m : Int) = (m : Int) := w64' (by omega) (by have := c_.out; omega); have p5 : (0 ≤ (j : Int)) = True := eq_true (by clear hwj hwm; omega); rw [hj]; clear hcc hfr hcl hM HP eS hpos hlen hj gb_ gl_ HG_ hP_ hsz; go_wp2
      clear hwj hwm; go_roundg k1
      case measure => omega
      case rel => exact ⟨m + 2, by have := c_.out; rw [w64' (by omega) (by omega)]; simp; omega, ⟨by have := HN.out; omega⟩, ⟨by have := c_.out; omega⟩, ⟨by
       have h := HP_.out.1; rw [hj_.out] at h; rw [eS_.out, hj_.out]; exact h⟩, ⟨blk_far C.out (fun e_ => hP2.out e_.symm) _⟩, ⟨below_set HB'.out GB_.out⟩⟩
  ·have cb : decide ((n : Int) ≤ 255) = false := decide_eq_false (by omega); have hn := zk (show n = 256 by have := HN.out; have := HN2.out; omega); clear c hlen; go_wp2
   go_ret
   have hn := hn.out; subst hn; exact ⟨_, rfl, Kd.R_mono HO.out (fun _ _ => trivial), HB'.out⟩
def b25.row (k : Nat) (most : Int) : Nat → List (List (S113)) → (Nat → Bool) → Option (Nat → Bool)
 | _, [], p => some p
 | i, s :: t, p => if (i : Int) < most then (leadtrailref03_memb k s).bind fun q => b25.row k most (i + 1) t (fun j => p j || q j) else some p
def b25.rows (k : Nat) (most : Int) : List (S50) → (Nat → Bool) → Option (Nat → Bool)
 | [], p => some p
 | s :: t, p => (b25.row k most 0 s.f0 p).bind fun q => b25.rows k most t q
def b25.small (l0_0 : List (S50)) : Bool := decide (l0_0.length ≤ 4611686018427387904) && l0_0.all fun s => decide (s.f0.length ≤ 4611686018427387904)
def leadtrailref25_Bytes.f (k : Nat) (l0_0 : List (S50)) (a1 : Int) : Option (List (S113) × Int) := (leadtrailref08_Valid.f k l0_0).bind fun t => if t = true then (if b25.small l0_0 = true then (b25.rows k a1 l0_0 (fun _ => false)).bind fun p => some (setP p 256, 0) else none) else some ([], 84)
set_option maxHeartbeats 8000000 in
set_option maxRecDepth 100000 in
theorem b25.no (k : Nat) (A0_0 : Option Addr) (c0_0 : Nat) (l0_0 : List (S50)) (a1 : Int) (w : World) (hr0_0 : Kd.C k50 w A0_0 l0_0.length l0_0) (hc0_0 : l0_0.length ≤ c0_0) (h : leadtrailref08_Valid.f k l0_0 = some false) :
 Calls Try.prog 27 #[.agg #[.slice A0_0 l0_0.length c0_0], .int .i64 a1] w fun e w' => e = .returned (.tuple #[.slice none 0 0, .int .i64 84]) ∧ Below w.heap.size w w' := by
 have HR := zk hr0_0; have HC := zk hc0_0; clear hr0_0 hc0_0; have HV := zk h; clear h; have hcz : (w.alloc (.cells #[.slice A0_0 l0_0.length c0_0] 24)).cell? ⟨w.heap.size, 0, none⟩ = some (.slice A0_0 l0_0.length c0_0) := (blk_cell (blk_new w _) 0).trans rfl; go_enter Try.func27, Try.ntmps27
 go_wp2_with (go_at_call 79; (with_reducible refine (leadtrailref08_Valid.calls k _ _ l0_0 false _ ?side1 ?side2 HV.out).mono ?_); (case side1 => exact zc HR.out); (case side2 => exact HC.out); rintro e w1 ⟨rfl, hb⟩; have HB := zk (below_step (below_alloc (Below.refl w.heap.size w) (.cells #[.slice A0_0 l0_0.length c0_0] 24)) hb); clear hb)
 go_ret2
 exact ⟨rfl, HB.out⟩
set_option maxHeartbeats 8000000 in
set_option maxRecDepth 100000 in
theorem b25.yes (k : Nat) (A0_0 : Option Addr) (c0_0 : Nat) (l0_0 : List (S50)) (a1 : Int) (P : Nat → Bool) (w : World) (hr0_0 : Kd.C k50 w A0_0 l0_0.length l0_0) (hc0_0 : l0_0.length ≤ c0_0) (h : leadtrailref08_Valid.f k l0_0 = some true) (hs : b25.small l0_0 = true) (hrows : b25.rows k a1 l0_0 (fun _ => false) = some P) :
 Calls Try.prog 27 #[.agg #[.slice A0_0 l0_0.length c0_0], .int .i64 a1] w fun e w' => ∃ v, e = .returned (.tuple #[v, .int .i64 0]) ∧ Kd.R k113 113 w' w.heap.size (fun _ => True) v (setP P 256) ∧ Below w.heap.size w w' := by
 have HR := zk hr0_0; have HC := zk hc0_0; clear hr0_0 hc0_0; have HV := zk h; clear h; have hs1 : l0_0.length ≤ 4611686018427387904 := by unfold b25.small at hs; rw [Bool.and_eq_true] at hs; exact of_decide_eq_true hs.1
 have HS2 : Aside0 (∀ s ∈ l0_0, s.f0.length ≤ 4611686018427387904) := ⟨by unfold b25.small at hs; rw [Bool.and_eq_true] at hs; exact fun s h => of_decide_eq_true (List.all_eq_true.1 hs.2 s h)⟩; have HS1 := zk hs1; have HRW := zk hrows; clear hs hs1 hrows; have hcz : (w.alloc (.cells #[.slice A0_0 l0_0.length c0_0] 24)).cell? ⟨w.heap.size, 0, none⟩ = some (.slice A0_0 l0_0.length c0_0) := (blk_cell (blk_new w _) 0).trans rfl; go_enter Try.func27, Try.ntmps27
 go_wp2_with (go_at_call 79; (with_reducible refine (leadtrailref08_Valid.calls k _ _ l0_0 true _ ?side1 ?side2 HV.out).mono ?_); (case side1 => exact zc HR.out); (case side2 => exact HC.out); rintro e w1 ⟨rfl, hb⟩; have HB0 := zk (below_step (below_alloc (Below.refl w.heap.size w) (.cells #[.slice A0_0 l0_0.length c0_0] 24)) hb); have BK0 := zk (blk_below (blk_new w (.cells #[.slice A0_0 l0_0.length c0_0] 24)) hb); clear hb)
 clear hcz; have HG : Aside0 (w.heap.size < w1.heap.size) := ⟨blk_lt BK0.out⟩; have D0 := zk (blk_new w1 (.cells Try.zeroCells110 110)); have BK := zk (blk_alloc BK0.out (.cells Try.zeroCells110 110)); have HB := zk (below_alloc HB0.out (.cells Try.zeroCells110 110)); clear BK0 HB0; generalize w1.alloc (.cells Try.zeroCells110 110) = w2 at D0 BK HB ⊢; generalize w1.heap.size = g at HG D0 ⊢; go_loopg [7] (l0_0.length + 1) (fun kq v7 w' => ∃ (n : Nat) (p : Nat → Bool), v7 = .int .i64 (n : Int) ∧ Aside0 (n + kq = l0_0.length + 1 ∧ n ≤ l0_0.length) ∧ Aside0 (b25.rows k a1 (l0_0.drop n) p = some P) ∧ Aside0 (w'.heap[w.heap.size]? = some (.cells #[.slice A0_0 l0_0.length c0_0] 24 (0, 0))) ∧ Aside0 (w'.heap[g]? = some (.cells (bitsV p) 110 (0, 0))) ∧ Aside0 (Below w.heap.size w w'))
 case atStart => exact ⟨0, fun _ => false, rfl, ⟨by omega, by omega⟩, ⟨by rw [List.drop_zero]; exact HRW.out⟩, BK, ⟨by rw [← bits_zero]; exact D0.out⟩, HB⟩
 case round =>
  clear D0 BK HB HRW; obtain ⟨n, p, rfl, HN, HA, BK, C0, HB⟩ := hrel; have hN := HN.out
  cases gk with
  | zero => exact absurd hN (by omega)
  | succ ko =>
  have hcz : wr.cell? ⟨w.heap.size, 0, none⟩ = some (.slice A0_0 l0_0.length c0_0) := (blk_cell BK.out 0).trans rfl; by_cases c : n < l0_0.length
  ·have c_ := zk c; have cb : decide ((n : Int) < (l0_0.length : Int)) = true := decide_eq_true (by omega); have cb2 : decide (n < l0_0.length) = true := decide_eq_true c; obtain ⟨q, hq1, hq2⟩ : ∃ q, b25.row k a1 0 (rd_T50 l0_0 (n : Int)).f0 p = some q ∧ b25.rows k a1 (l0_0.drop (n + 1)) q = some P := by
    have h := HA.out; rw [List.drop_eq_getElem_cons c] at h; obtain ⟨q, h1, h2⟩ := Option.bind_eq_some_iff.mp h; exact ⟨q, by rw [show rd_T50 l0_0 (n : Int) = l0_0[n] by simp [rd_T50, List.getD, c]]; exact h1, h2⟩
   have HQ1 := zk hq1; have HQ2 := zk hq2; have HL2 := zk (show (rd_T50 l0_0 (n : Int)).f0.length ≤ 4611686018427387904 by rw [show rd_T50 l0_0 (n : Int) = l0_0[n] by simp [rd_T50, List.getD, c]]; exact HS2.out _ (List.getElem_mem _)); clear hq1 hq2 HA hN c; go_wp2
   clear hcz cb cb2; go_loopg [8] ((rd_T50 l0_0 (n : Int)).f0.length + 1) (fun kq v8 w' => ∃ (i : Nat) (p : Nat → Bool), v8 = .int .i64 (i : Int) ∧ Aside0 (i + kq = (rd_T50 l0_0 (n : Int)).f0.length + 1 ∧ i ≤ (rd_T50 l0_0 (n : Int)).f0.length) ∧ Aside0 (b25.row k a1 i ((rd_T50 l0_0 (n : Int)).f0.drop i) p = some q) ∧ Aside0 (w'.heap[w.heap.size]? = some (.cells #[.slice A0_0 l0_0.length c0_0] 24 (0, 0))) ∧ Aside0 (w'.heap[g]? = some (.cells (bitsV p) 110 (0, 0))) ∧ Aside0 (Below w.heap.size w w'))
   case atStart => exact ⟨0, p, rfl, ⟨by omega, by omega⟩, ⟨by rw [List.drop_zero]; exact HQ1.out⟩, BK, C0, HB⟩
   case round =>
    clear BK C0 HB HQ1; obtain ⟨i, p, rfl, HI, HA, BK, C0, HB⟩ := hrel; have hI := HI.out
    cases gk with
    | zero => exact absurd hI (by omega)
    | succ ki =>
    have c := c_.out; have pn : 0 ≤ (n : Int) := by omega
    have qn : (n : Int) < (l0_0.length : Int) := by omega
    obtain ⟨ad, A1, c1, e, hx0, hx1, hl1, hi1⟩ := at_T50 HR.out (n : Int) pn qn; cases e; have HI1 := zk hi1; replace hx0 := zcl HB.out hx0; clear hx1 hl1 hi1; simp only [Int.toNat_natCast] at hx0; have hcz : wr.cell? ⟨w.heap.size, 0, none⟩ = some (.slice (some ad) l0_0.length c0_0) := (blk_cell BK.out 0).trans rfl; replace pn := eq_true pn; replace qn := eq_true qn; have leave : Aside0 (p = q → wr.heap[g]? = some (.cells (bitsV q) 110 (0, 0))) := ⟨fun e => by rw [← e]; exact C0.out⟩; generalize hps : (rd_T50 l0_0 (n : Int)).f0 = ps at HI HI1 HA HL2 hx0 hI ⊢; by_cases d : i < ps.length
    ·have db : decide ((i : Int) < (ps.length : Int)) = true := decide_eq_true (by omega); have db2 : decide (i < ps.length) = true := decide_eq_true d; by_cases f : (i : Int) < a1
     ·have fb : decide ((i : Int) < a1) = true := decide_eq_true f; have pi : 0 ≤ (i : Int) := by omega
      have qi : (i : Int) < (ps.length : Int) := by omega
      obtain ⟨ad2, A2, c2, e2, hy0, hl2, hi2⟩ := at_L4 HI1.out (i : Int) pi qi; cases e2; replace hy0 := zcl HB.out hy0; simp only [Int.toNat_natCast] at hy0; obtain ⟨q', hm, hrest⟩ : ∃ q', leadtrailref03_memb k (rd_L4 ps (i : Int)) = some q' ∧ b25.row k a1 (i + 1) (ps.drop (i + 1)) (fun j => p j || q' j) = some q := by
       have h := HA.out; rw [List.drop_eq_getElem_cons d] at h; unfold b25.row at h; rw [if_pos f] at h; obtain ⟨q', h1, h2⟩ := Option.bind_eq_some_iff.mp h; exact ⟨q', by rw [show rd_L4 ps (i : Int) = ps[i] by simp [rd_L4, List.getD, d]]; exact h1, h2⟩
      obtain ⟨b, hv, hqe, hok, hsm⟩ := memb_some hm; have HREST := zk hrest; have HM := fun (w3 : World) (hB : Below w.heap.size w w3) => R3Members.calls k A2 c2 (rd_L4 ps (i : Int)) b w3 (Kd.C_below hi2 hB) hl2 hv hok hsm
      change ∀ w3, Below w.heap.size w w3 → Calls Try.prog 82 _ w3 (fun e w' => e = .returned (.agg (bitsV (membersB b (rd_L4 ps (i : Int))))) ∧ _) at HM
      rw [← hqe] at HM; replace HM := zk HM; clear hv hok hsm hm hrest hl2 hi2 hqe HA leave; replace pi := eq_true pi; replace qi := eq_true qi; have d_ := zk d; have f_ := zk f; clear d f c hI; go_wp2_with (go_at_call 82; refine (HM.out _ HB.out).mono ?_; rintro e w3 ⟨rfl, hb⟩; have HB3 := zk (below_step HB.out hb); have BK3 := zk (blk_below BK.out hb); have C03 := zk (blk_below C0.out hb); clear hb)
      rw [run_store_new w3 q']; have E1 := zk (blk_new w3 (.cells (bitsV q') 110)); have C04 := zk (blk_alloc C03.out (.cells (bitsV q') 110)); have BK4 := zk (blk_alloc BK3.out (.cells (bitsV q') 110)); have HB4 := zk (below_alloc HB3.out (.cells (bitsV q') 110)); have HG3 : Aside0 (g < w3.heap.size) := ⟨blk_lt C03.out⟩; clear BK C0 HB HB3 BK3 C03 hx0 hy0 hcz db db2 fb pn qn pi qi; generalize w3.alloc (.cells (bitsV q') 110) = w4 at E1 C04 BK4 HB4 ⊢; generalize w3.heap.size = g3 at E1 HG3 ⊢; go_wp2
      go_loopg [10] 257 (fun kq v10 w' => ∃ x : Nat, v10 = .int .i64 (x : Int) ∧ Aside0 (x + kq = 257) ∧ Aside0 (x ≤ 256) ∧ Aside0 (w'.heap[g]? = some (.cells (bitsV fun j => if j < x then (p j || q' j) else p j) 110 (0, 0))) ∧ Aside0 (w'.heap[g3]? = some (.cells (bitsV q') 110 (0, 0))) ∧ Aside0 (w'.heap[w.heap.size]? = some (.cells #[.slice (some ad) l0_0.length c0_0] 24 (0, 0))) ∧ Aside0 (Below w.heap.size w w'))
      case atStart => exact ⟨0, rfl, ⟨by omega⟩, ⟨by omega⟩, ⟨by simpa using C04.out⟩, E1, BK4, HB4⟩
      case round =>
       clear E1 C04 BK4 HB4; obtain ⟨x, rfl, HX, HX2, C0, C1, BK, HB⟩ := hrel
       cases gk with
       | zero => exact absurd HX.out (by have := HX2.out; omega)
       | succ k1 =>
       by_cases c : x < 256
       ·have cb : decide ((x : Int) < 256) = true := decide_eq_true (by omega); have p2 : (0 ≤ (x : Int)) = True := eq_true (by omega); have q2 : ((x : Int) < 256) = True := eq_true (by omega); have cc_ := zk c; have hc0 := blk_cell C0.out x; rw [bitsV_get _ _ (by omega), if_neg (Nat.lt_irrefl x)] at hc0; have hc1 := blk_cell C1.out x; rw [bitsV_get _ _ (by omega)] at hc1; have hf0 := blk_frozen C0.out x; clear c; have nextB : ∀ v : Bool, v = (p x || q' x) → (bitsV fun j => if j < x then (p j || q' j) else p j).setIfInBounds x (.bool v) = bitsV fun j => if j < x + 1 then (p j || q' j) else p j := fun v hv => (bitsV_set _ _ _).trans (bitsV_congr fun j _ => by
         by_cases e : j = x
         ·subst e; rw [if_pos rfl, if_pos (Nat.lt_succ_self _), hv]
         ·rw [if_neg e]; by_cases d : j < x
          ·rw [if_pos d, if_pos (by omega)]
          ·rw [if_neg d, if_neg (by omega)])
        cases hpn : p x <;> cases hqn : q' x <;> rw [hpn] at hc0 nextB <;> rw [hqn] at hc1 nextB
        all_goals
         go_wp2
         have hN := HX.out; have c := cc_.out; go_roundg k1
         case measure => omega
         case rel => exact ⟨x + 1, by rw [w64' (by omega) (by omega)]; simp, ⟨by omega⟩, ⟨by omega⟩, ⟨blk_put C0.out x _ (nextB _ rfl)⟩, ⟨blk_far C1.out (by have := HG3.out; dsimp only; omega) _⟩, ⟨blk_far BK.out (by have := HG.out; dsimp only; omega) _⟩, ⟨below_set HB.out (Nat.le_of_lt HG.out)⟩⟩
       ·have cb : decide ((x : Int) < 256) = false := decide_eq_false (by omega); have hx := zk (show x = 256 by have := HX.out; have := HX2.out; omega); clear c; go_wp2
        have hI := HI.out; have d := d_.out; have hl := HL2.out; subst hps; go_roundg ki
        case measure => omega
        case rel => exact ⟨i + 1, fun j => p j || q' j, by rw [w64' (by omega) (by omega)]; simp, ⟨by omega, by omega⟩, HREST, BK, ⟨by rw [C0.out, bitsV_congr (fun j hj => (by rw [hx.out, if_pos hj] : (if j < x then (p j || q' j) else p j) = (p j || q' j)))]⟩, HB⟩
     ·have fb : decide ((i : Int) < a1) = false := decide_eq_false f; have hpq := zk (show p = q by
       have h := HA.out; rw [List.drop_eq_getElem_cons d] at h; unfold b25.row at h; rw [if_neg f] at h; exact Option.some.inj h)
      clear d f c hI HA; go_wp2
      have hN := HN.out; have c := c_.out; have hl := HS1.out; go_roundg ko
      case measure => omega
      case rel => exact ⟨n + 1, q, by rw [w64' (by omega) (by omega)]; simp, ⟨by omega, by omega⟩, HQ2, BK, ⟨leave.out hpq.out⟩, HB⟩
    ·have db : decide ((i : Int) < (ps.length : Int)) = false := decide_eq_false (by omega); have db2 : decide (i < ps.length) = false := decide_eq_false d; have hpq := zk (show p = q by
      have h := HA.out; rw [List.drop_of_length_le (by omega)] at h; exact Option.some.inj h)
     clear d c hI HA; go_wp2
     have hN := HN.out; have c := c_.out; have hl := HS1.out; go_roundg ko
     case measure => omega
     case rel => exact ⟨n + 1, q, by rw [w64' (by omega) (by omega)]; simp, ⟨by omega, by omega⟩, HQ2, BK, ⟨leave.out hpq.out⟩, HB⟩
  ·have cb : decide ((n : Int) < (l0_0.length : Int)) = false := decide_eq_false (by omega); have cb2 : decide (n < l0_0.length) = false := decide_eq_false c; have hp := zk (show p = P by
    have h := HA.out; rw [List.drop_of_length_le (by omega)] at h; exact Option.some.inj h)
   clear c hN HA; go_wp2
   refine wp_load_blk 110 (.tmp 6) rfl g rfl _ C0.out 256 4 hu110 (hi110 _) ?_; have hS := R3Set.calls p wr; go_wp2_with (go_at_call 83; refine hS.mono ?_; rintro e w9 ⟨v, rfl, ho, hb⟩; have HO9 := zk (Kd.R_lower ho (below_size HB.out)); have HB9 := zk (below_step HB.out hb); clear ho hb hS)
   go_ret2
   exact ⟨v, rfl, by rw [← hp.out]; exact HO9.out, HB9.out⟩
end Go.Proofs.Ytkcklnmbeinfkaa.B
