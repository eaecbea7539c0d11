/- Words and walks of this claim, of the text Ix7. -/
import Derived.Test.YtoljcfocgaonpaaKaQW0
import Derived.Test.YtoljcfocgaonpaaKaIx0
import Derived.Test.YtoljcfocgaonpaaKaIx4
import Derived.Test.YtoljcfocgaonpaaKaIx6
namespace Go.Proofs.Ytoljcfocgaonpaa.I
open Go.RowKit Go.Proofs.YtoljcfocgaonpaaW.PrintWords Go.Proofs.YtoljcfocgaonpaaW.PrintLast Go.Proofs.YtoljcfocgaonpaaW.PrintMore
attribute [local go_sem] max2_int min2_int max_two min_two max_three min_three max_four min_four
set_option linter.unusedVariables false
set_option linter.unusedSimpArgs false
def selB (p : Nat → Bool) (k : Int) : Nat → Nat → Int × Bool
 | 0, _ => (0, false)
 | f + 1, x => if p x = true ∧ (cntB p x : Int) = k then ((x : Int), true) else selB p k f (x + 1)
set_option maxHeartbeats 8000000 in
set_option maxRecDepth 100000 in
theorem R3Select.calls (k : Nat) (A0 : Option Addr) (c0 : Nat) (l0 : List S34) (x : Int) (b : Bool) (w : World) (hr0 : Kd.C k34 w A0 l0.length l0) (hc0 : l0.length ≤ c0) (h : leadtrailref03_Valid.f k l0 = some b) (hok : b = true → ∀ r ∈ l0, okPiece r = true) (hsm : l0.length ≤ 8796093022207) :
 Calls Try.prog 18 #[.slice A0 l0.length c0, .int .i64 x] w fun e w' => e = .returned (.tuple #[.int .i64 (selB (membersB b l0) x 256 0).1, .bool (selB (membersB b l0) x 256 0).2]) ∧ Below w.heap.size w w' := by
 have hMem := R3Members.calls k A0 c0 l0 b w hr0 hc0 h hok hsm; clear hr0 hc0 h hok; change Calls Try.prog 61 _ w (fun e w' => e = .returned (.agg (bitsV (membersB b l0))) ∧ _) at hMem
 generalize membersB b l0 = p at hMem ⊢; generalize hR : selB p x 256 0 = R; go_enter Try.func18, Try.ntmps18
 go_wp2_with (go_at_call 61; refine hMem.mono ?_; rintro e w2 ⟨rfl, hb⟩; clear hMem; have HB3 := zk hb; clear hb)
 rw [run_store_new w2 p]; have D := zk (blk_new w2 (.cells (bitsV p) 99)); have HB4 := zk (below_alloc HB3.out (.cells (bitsV p) 99)); have RR := zk hR; clear HB3 hR; generalize w2.heap.size = g at D ⊢; generalize w2.alloc (.cells (bitsV p) 99) = w3 at D HB4 ⊢; go_wp2
 go_loopg [7, 8] 257 (fun kq v7 v8 w' => ∃ n : Nat, v7 = .int .i64 (cntB p n : Nat) ∧ v8 = .int .i64 (n : Int) ∧ Aside0 (n + kq = 257) ∧ Aside0 (n ≤ 256) ∧ Aside0 (selB p x (256 - n) n = R) ∧ Aside0 (w'.heap[g]? = some (.cells (bitsV p) 99 (0, 0))) ∧ Aside0 (Below w.heap.size w w'))
 case atStart => exact ⟨0, rfl, rfl, ⟨by omega⟩, ⟨by omega⟩, RR, D, HB4⟩
 case round =>
  clear RR; obtain ⟨n, rfl, rfl, HN, HN2, RR, C, HB'⟩ := hrel; have hcl := cntB_le p n
  cases gk with
  | zero => exact absurd HN.out (by have := HN2.out; omega)
  | succ k1 =>
  by_cases c : n ≤ 255
  ·have cb : decide ((n : Int) ≤ 255) = true := decide_eq_true (by omega); have p2 : (0 ≤ (n : Int)) = True := eq_true (by omega); have q2 : ((n : Int) < 256) = True := eq_true (by omega); have c_ := zk c; have hcl_ := zk hcl; have hc := blk_cell C.out n; rw [bitsV_get _ _ (by omega)] at hc; have eq1 : 256 - n = (255 - n) + 1 := by omega
   have eq2 : 255 - n = 256 - (n + 1) := by omega
   have hS := zk (show selB p x (256 - n) n = if p n = true ∧ (cntB p n : Int) = x then ((n : Int), true) else selB p x (256 - (n + 1)) (n + 1) by rw [eq1, selB, eq2]); clear c hcl eq1 eq2; cases hpn : p n with
   | true =>
    rw [hpn] at hc; by_cases e : (cntB p n : Int) = x
    ·have hRn := zk (RR.out.symm.trans (hS.out.trans (if_pos ⟨hpn, e⟩))); clear hS RR; subst e; go_wp2
     go_ret2
     rw [hRn.out]; exact ⟨rfl, HB'.out⟩
    ·have eb0 : decide ((cntB p n : Int) = x) = false := decide_eq_false e; have eb1 : ((cntB p n : Int) == x) = false := by simpa using e
     have hRn := zk ((show selB p x (256 - (n + 1)) (n + 1) = R from (hS.out.trans (if_neg fun h => e h.2)).symm.trans RR.out)); go_wp2
     have hcl := hcl_.out; have hN := HN.out; have c := c_.out; go_roundg k1
     case measure => omega
     case rel => exact ⟨n + 1, by simp only [cntB, hpn, if_true]; rw [w64' (by omega) (by omega)]; simp, by rw [w64' (by omega) (by omega)]; simp, ⟨by omega⟩, ⟨by omega⟩, hRn, C, HB'⟩
   | false =>
    rw [hpn] at hc; have hRn := zk ((show selB p x (256 - (n + 1)) (n + 1) = R from (hS.out.trans (if_neg fun h => by rw [hpn] at h; cases h.1)).symm.trans RR.out)); go_wp2
    have hcl := hcl_.out; have hN := HN.out; have c := c_.out; go_roundg k1
    case measure => omega
    case rel => exact ⟨n + 1, by simp only [cntB, hpn, Bool.false_eq_true, if_false, Nat.add_zero], by rw [w64' (by omega) (by omega)]; simp, ⟨by omega⟩, ⟨by omega⟩, hRn, C, HB'⟩
  ·have cb : decide ((n : Int) ≤ 255) = false := decide_eq_false (by omega); have hn := zk (show n = 256 by have := HN.out; have := HN2.out; omega); clear c hcl; go_wp2
   go_ret2
   have hn := hn.out; subst hn; have := RR.out; simp only [Nat.sub_self, selB] at this; rw [← this]; exact ⟨rfl, HB'.out⟩
def leadtrailref03_Select.f (k : Nat) (l0 : List (S34)) (a1 : Int) : Option (Int × Bool) := (leadtrailref03_memb k l0).bind fun p => some (selB p a1 256 0)
theorem leadtrailref03_Select.calls (k : Nat) (A0 : Option Addr) (c0 : Nat) (l0 : List (S34)) (a1 : Int) (r1 : Int) (r2 : Bool) (w : World) (hr0 : Kd.C k34 w A0 l0.length l0) (hc0 : l0.length ≤ c0) (h : leadtrailref03_Select.f k l0 a1 = some (r1, r2)) :
 Calls Try.prog 18 #[.slice A0 l0.length c0, .int .i64 a1] w fun e w' => e = .returned (.tuple #[.int .i64 r1, .bool r2]) ∧ Below w.heap.size w w' := by
 obtain ⟨p, h1, h2⟩ := Option.bind_eq_some_iff.mp h; obtain ⟨b, hv, rfl, hok, hsm⟩ := memb_some h1; have hh := R3Select.calls k A0 c0 l0 a1 b w hr0 hc0 hv hok hsm; have e := Option.some.inj h2; rw [e] at hh; exact hh
set_option maxHeartbeats 8000000 in
set_option maxRecDepth 100000 in
theorem R3Size.calls (k : Nat) (A0 : Option Addr) (c0 : Nat) (l0 : List S34) (b : Bool) (w : World) (hr0 : Kd.C k34 w A0 l0.length l0) (hc0 : l0.length ≤ c0) (h : leadtrailref03_Valid.f k l0 = some b) (hok : b = true → ∀ r ∈ l0, okPiece r = true) (hsm : l0.length ≤ 8796093022207) :
 Calls Try.prog 19 #[.slice A0 l0.length c0] w fun e w' => e = .returned (.int .i64 (cntB (membersB b l0) 256 : Nat)) ∧ Below w.heap.size w w' := by
 have HR0 := zk hr0; have HC0 := zk hc0; have hMem := R3Members.calls k A0 c0 l0 b w hr0 hc0 h hok hsm; clear hr0 hc0 h hok; change Calls Try.prog 61 _ w (fun e w' => e = .returned (.agg (bitsV (membersB b l0))) ∧ _) at hMem
 have HB := zk (Below.refl w.heap.size w); have hle := cntB_le (membersB b l0); generalize membersB b l0 = p at hMem hle ⊢; go_enter Try.func19, Try.ntmps19
 go_wp2_with (go_at_call 61; refine hMem.mono ?_; rintro e w1 ⟨rfl, hb⟩; clear hMem; have HB2 := zk hb; clear hb)
 rw [run_store_new w1 p]; have D := zk (blk_new w1 (.cells (bitsV p) 99)); have HB3 := zk (below_alloc HB2.out (.cells (bitsV p) 99)); clear HB2 HB; generalize w1.heap.size = g at D ⊢; generalize w1.alloc (.cells (bitsV p) 99) = w2 at D HB3 ⊢; go_wp2
 go_loopg [4, 5] 257 (fun kq v4 v5 w' => ∃ n : Nat, v4 = .int .i64 (cntB p n : Nat) ∧ v5 = .int .i64 (n : Int) ∧ Aside0 (n + kq = 257) ∧ Aside0 (n ≤ 256) ∧ Aside0 (w'.heap[g]? = some (.cells (bitsV p) 99 (0, 0))) ∧ Aside0 (Below w.heap.size w w'))
 case atStart => exact ⟨0, rfl, rfl, ⟨by omega⟩, ⟨by omega⟩, D, HB3⟩
 case round =>
  obtain ⟨n, rfl, rfl, HN, HN2, C, HB'⟩ := hrel; have hcl := cntB_le p n
  cases gk with
  | zero => exact absurd HN.out (by have := HN2.out; omega)
  | succ k1 =>
  by_cases c : n ≤ 255
  ·have cb : decide ((n : Int) ≤ 255) = true := decide_eq_true (by omega); have p2 : (0 ≤ (n : Int)) = True := eq_true (by omega); have q2 : ((n : Int) < 256) = True := eq_true (by omega); have c_ := zk c; have hcl_ := zk hcl; have hc := blk_cell C.out n; rw [bitsV_get _ _ (by omega)] at hc; clear c hcl; cases hpn : p n with
   | true =>
    rw [hpn] at hc; go_wp2
    have hcl := hcl_.out; have hN := HN.out; have c := c_.out; go_roundg k1
    case measure => omega
    case rel => exact ⟨n + 1, by simp only [cntB, hpn, if_true]; rw [w64' (by omega) (by omega)]; simp, by rw [w64' (by omega) (by omega)]; simp, ⟨by omega⟩, ⟨by omega⟩, C, HB'⟩
   | false =>
    rw [hpn] at hc; go_wp2
    have hcl := hcl_.out; have hN := HN.out; have c := c_.out; go_roundg k1
    case measure => omega
    case rel => exact ⟨n + 1, by simp only [cntB, hpn, Bool.false_eq_true, if_false, Nat.add_zero], by rw [w64' (by omega) (by omega)]; simp, ⟨by omega⟩, ⟨by omega⟩, C, HB'⟩
  ·have cb : decide ((n : Int) ≤ 255) = false := decide_eq_false (by omega); have hn := zk (show n = 256 by have := HN.out; have := HN2.out; omega); clear c hcl; go_wp2
   go_ret
   have hn := hn.out; subst hn; exact ⟨rfl, HB'.out⟩
def leadtrailref03_Size.f (k : Nat) (l0 : List (S34)) : Option (Int) := (leadtrailref03_memb k l0).bind fun p => some (cntB p 256 : Int)
theorem leadtrailref03_Size.calls (k : Nat) (A0 : Option Addr) (c0 : Nat) (l0 : List (S34)) (r : Int) (w : World) (hr0 : Kd.C k34 w A0 l0.length l0) (hc0 : l0.length ≤ c0) (h : leadtrailref03_Size.f k l0 = some r) :
 Calls Try.prog 19 #[.slice A0 l0.length c0] w fun e w' => e = .returned (.int .i64 r) ∧ Below w.heap.size w w' := by
 obtain ⟨p, h1, h2⟩ := Option.bind_eq_some_iff.mp h; obtain ⟨b, hv, rfl, hok, hsm⟩ := memb_some h1; have hh := R3Size.calls k A0 c0 l0 b w hr0 hc0 hv hok hsm; obtain rfl := Option.some.inj h2; exact hh
def setP (p : Nat → Bool) : Nat → List S34
 | 0 => []
 | n + 1 => if p n = true then (if 0 < n ∧ p (n - 1) = true then (setP p n).set ((setP p n).length - 1) ⟨(rd_T34 (setP p n) ((setP p n).length - 1 : Nat)).f0, n⟩ else setP p n ++ [⟨n, n⟩]) else setP p n
theorem setP_len (p : Nat → Bool) : ∀ n, (setP p n).length ≤ n
 | 0 => Nat.le_refl _
 | n + 1 => by
  have := setP_len p n; simp only [setP]; split
  ·split
   ·simp; omega
   ·simp; omega
  ·omega
theorem setP_pos (p : Nat → Bool) (m : Nat) (h : p m = true) : 0 < (setP p (m + 1)).length := by
 simp only [setP, if_pos h]; split
 ·rename_i hh
  obtain ⟨h1, h2⟩ := hh; obtain ⟨q, rfl⟩ : ∃ q, m = q + 1 := ⟨m - 1, by omega⟩
  have := setP_pos p q (by simpa using h2); simpa using this
 ·simp
set_option maxHeartbeats 8000000 in
set_option maxRecDepth 100000 in
theorem R3Set.calls (p : Nat → Bool) (w : World) :
 Calls Try.prog 62 #[.agg (bitsV p)] w fun e w' => ∃ v, e = .returned v ∧ Kd.R k34 34 w' w.heap.size (fun _ => True) v (setP p 256) ∧ Below w.heap.size w w' := by
 have HB := zk (Below.refl w.heap.size w); go_enter Try.func62, Try.ntmps62
 go_wp2
 have D := zk (blk_new w (.cells (bitsV p) 99)); have HB1 := zk (below_alloc HB.out (.cells (bitsV p) 99)); clear HB; generalize w.alloc (.cells (bitsV p) 99) = w1 at D HB1 ⊢; go_loopg [3, 4] 257 (fun kq v3 v4 w' => ∃ n : Nat, v4 = .int .i64 (n : Int) ∧ Aside0 (n + kq = 257) ∧ Aside0 (n ≤ 256) ∧ Aside0 (Kd.R k34 34 w' w.heap.size (fun k_ => k_ ≠ w.heap.size) v3 (setP p n)) ∧ Aside0 (w'.heap[w.heap.size]? = some (.cells (bitsV p) 99 (0, 0))) ∧ Aside0 (Below w.heap.size w w'))
 case atStart => exact ⟨0, rfl, ⟨by omega⟩, ⟨by omega⟩, ⟨Kd.R_nil _ _ _ _ _⟩, D, HB1⟩
 case round =>
  clear D HB1; obtain ⟨n, rfl, HN, HN2, HO, C, HB'⟩ := hrel; have hlen := setP_len p n
  cases gk with
  | zero => exact absurd HN.out (by have := HN2.out; omega)
  | succ k1 =>
  by_cases c : n ≤ 255
  ·have cb : decide ((n : Int) ≤ 255) = true := decide_eq_true (by omega); have p2 : (0 ≤ (n : Int)) = True := eq_true (by omega); have q2 : ((n : Int) < 256) = True := eq_true (by omega); have c_ := zk c; have hl_ := zk hlen; have hc := blk_cell C.out n; rw [bitsV_get _ _ (by omega)] at hc; clear c hlen; cases hpn : p n with
   | false =>
    rw [hpn] at hc; go_wp2
    have hN := HN.out; have c := c_.out; go_roundg k1
    case measure => omega
    case rel => exact ⟨n + 1, by rw [w64' (by omega) (by omega)]; simp, ⟨by omega⟩, ⟨by omega⟩, ⟨by simp only [setP, hpn, Bool.false_eq_true, if_false]; exact HO.out⟩, C, HB'⟩
   | true =>
    rw [hpn] at hc; obtain ⟨Ao, co, eo⟩ := Kd.R_slice HO.out; subst eo; rcases n with _ | m
    ·go_wp2_with (first | ((with_reducible refine gate_builtin (b := .append) (xs := #[.tmp 28, .tmp 32]) rfl ?_); (try (refine gate_guard (by rfl) ?_; dsimp only)); at_builtin; refine Kd.R_append k34 (w0 := w) w.heap.size rfl (.tmp 28) (.tmp 32) 22 34 (.agg #[(.int .i64 0), (.int .i64 0)]) 16 rfl Try.underlying22 info34 rfl (by decide) (by omega) (.slice Ao (setP p 0).length co) (setP p 0) (⟨(0 : Nat), (0 : Nat)⟩ : S34) [.int .i64 (0 : Nat), .int .i64 (0 : Nat)] (fun k_ => k_ ≠ w.heap.size) (fun _ => False) rfl rfl ?aP (fun _ hk => hk.elim) ?aF ?aO ?aB ?aS ?aL ?_; (case aP => exact k34_mkM _ _ _ (⟨(0 : Nat), (0 : Nat)⟩ : S34)); (case aB => exact (by repeat (first | (with_reducible first | exact HB'.out | apply zD | apply zE | apply zF) | exact HB'.out))); (case aF => exact (fun k_ hk_ he_ => by have := blk_lt (show _ = some _ by (with_reducible repeat (first | refine blk_drewN ?_ _ | refine blk_drew ?_ | refine blk_alloc ?_ _)); exact C.out); omega)); (case aO => exact (zr HO.out)); (case aS => exact (below_size (by repeat (first | (with_reducible first | exact HB'.out | apply zD | apply zE | apply zF) | exact HB'.out)))); (case aL => have := hl_.out; have := c_.out; omega); intro v5 w5 ho hb hg hat; have C5 := zk (blk_grown (by (with_reducible repeat (first | refine blk_drewN ?_ _ | refine blk_drew ?_ | refine blk_alloc ?_ _)); exact C.out) hg (fun he_ => HO.out.1 _ he_.symm rfl)); have HO5 := zk ho; have HB5 := zk hb; clear ho hb hg hat HB' HO C))
     go_roundg k1
     case measure => omega
     case rel => exact ⟨1, rfl, ⟨by have := HN.out; omega⟩, ⟨by omega⟩, ⟨by have := HO5.out; simpa [setP, hpn] using this⟩, C5, HB5⟩
    ·have ec : ((m + 1 : Nat) : Int) = (m : Int) + 1 := by omega
     rw [ec] at cb p2 q2 ⊢; have hc2 := blk_cell C.out m; rw [bitsV_get _ _ (by have := c_.out; omega)] at hc2; have p3 : (0 ≤ (m : Int)) = True := eq_true (by omega); have q3 : ((m : Int) < 256) = True := eq_true (by have := c_.out; omega); have g3 : decide (0 < (m : Int) + 1) = true := decide_eq_true (by omega); cases hpm : p m with
     | false =>
      rw [hpm] at hc2; have hwm : wrap64 (m : Int) = (m : Int) := w64' (by omega) (by have := c_.out; omega); go_wp2_with (first | ((with_reducible refine gate_builtin (b := .append) (xs := #[.tmp 28, .tmp 32]) rfl ?_); (try (refine gate_guard (by rfl) ?_; dsimp only)); at_builtin; refine Kd.R_append k34 (w0 := w) w.heap.size rfl (.tmp 28) (.tmp 32) 22 34 (.agg #[(.int .i64 0), (.int .i64 0)]) 16 rfl Try.underlying22 info34 rfl (by decide) (by omega) (.slice Ao (setP p (m + 1)).length co) (setP p (m + 1)) (⟨(m : Int) + 1, (m : Int) + 1⟩ : S34) [.int .i64 ((m : Int) + 1), .int .i64 ((m : Int) + 1)] (fun k_ => k_ ≠ w.heap.size) (fun _ => False) rfl rfl ?aP (fun _ hk => hk.elim) ?aF ?aO ?aB ?aS ?aL ?_; (case aP => exact k34_mkM _ _ _ (⟨(m : Int) + 1, (m : Int) + 1⟩ : S34)); (case aB => exact (by repeat (first | (with_reducible first | exact HB'.out | apply zD | apply zE | apply zF) | exact HB'.out))); (case aF => exact (fun k_ hk_ he_ => by have := blk_lt (show _ = some _ by (with_reducible repeat (first | refine blk_drewN ?_ _ | refine blk_drew ?_ | refine blk_alloc ?_ _)); exact C.out); clear hwm; omega)); (case aO => exact (zr HO.out)); (case aS => exact (below_size (by repeat (first | (with_reducible first | exact HB'.out | apply zD | apply zE | apply zF) | exact HB'.out)))); (case aL => have := hl_.out; have := c_.out; clear hwm; omega); intro v5 w5 ho hb hg hat; have C5 := zk (blk_grown (by (with_reducible repeat (first | refine blk_drewN ?_ _ | refine blk_drew ?_ | refine blk_alloc ?_ _)); exact C.out) hg (fun he_ => HO.out.1 _ he_.symm rfl)); have HO5 := zk ho; have HB5 := zk hb; clear ho hb hg hat HB' HO C))
      clear hwm; go_roundg k1
      case measure => omega
      case rel => exact ⟨m + 2, by have := c_.out; rw [w64' (by omega) (by omega)]; simp; omega, ⟨by have := HN.out; omega⟩, ⟨by have := c_.out; omega⟩, ⟨by
       have h := HO5.out; have e : setP p (m + 2) = setP p (m + 1) ++ [(⟨(m : Int) + 1, (m : Int) + 1⟩ : S34)] := by
        rw [setP, if_pos hpn, if_neg (fun h => by have := h.2; simp [hpm] at this)]; simp
       rw [e]; exact h⟩, C5, HB5⟩
     | true =>
      rw [hpm] at hc2; have eS : setP p (m + 2) = (setP p (m + 1)).set ((setP p (m + 1)).length - 1) ⟨(rd_T34 (setP p (m + 1)) ((setP p (m + 1)).length - 1 : Nat)).f0, ((m + 1 : Nat) : Int)⟩ := by
       rw [setP, if_pos hpn, if_pos ⟨Nat.succ_pos _, by simpa using hpm⟩]
      have hpos := setP_pos p m hpm; have hlen := hl_.out; generalize setP p (m + 1) = xs at eS hpos hlen HO ⊢; obtain ⟨j, hj⟩ : ∃ j, xs.length = j + 1 := ⟨xs.length - 1, by omega⟩
      obtain ⟨go_, co_, eo_, gb_, gl_, cl_, HG_⟩ := Kd.R_form HO.out (by omega); cases eo_; have hP_ := HO.out.1 go_ rfl; obtain ⟨ce, hcl, hM, hcc, hfr⟩ := Kd.R_elem HO.out z34 (j : Int) (by omega) (by rw [hj]; omega); obtain rfl := k34_openM hM; have HP := Kd.R_seg HO.out (j : Int) (by omega) (by rw [hj]; omega) (seg := [.int .i64 ((m : Int) + 1)]) (j := 1) hcl hcc (show 2 ≤ 2 from by decide) (x' := (⟨(rd_T34 xs (j : Int)).f0, (m : Int) + 1⟩ : S34)) (k34_mkM _ _ _ (⟨(rd_T34 xs (j : Int)).f0, (m : Int) + 1⟩ : S34)) (fun _ hk => hk); have hx1 := hcc 1 _ rfl; have hf1 := hfr 1; have hsz : k34.sz = 2 := rfl; simp only [hsz, Int.toNat_natCast] at hx1 hf1 HP; have HP_ := zk HP; have eS_ := zk eS; have hj_ := zk hj; have GB_ := zk gb_; have hP2 := zk (show go_ ≠ w.heap.size from hP_); have hjm := zk (show j ≤ m by omega); have hwj : wrap64 (j : Int) = (j : Int) := w64' (by omega) (by have := c_.out; omega); have hwm : wrap64 (m : Int) = (m : Int) := w64' (by omega) (by have := c_.out; omega); have p5 : (0 ≤ (j : Int)) = True := eq_true (by clear hwj hwm; omega); rw [hj]; clear hcc hfr hcl hM HP eS hpos hlen hj gb_ gl_ HG_ hP_ hsz; go_wp2
      clear hwj hwm; go_roundg k1
      case measure => omega
      case rel => exact ⟨m + 2, by have := c_.out; rw [w64' (by omega) (by omega)]; simp; omega, ⟨by have := HN.out; omega⟩, ⟨by have := c_.out; omega⟩, ⟨by
       have h := HP_.out.1; rw [hj_.out] at h; rw [eS_.out, hj_.out]; exact h⟩, ⟨blk_far C.out (fun e_ => hP2.out e_.symm) _⟩, ⟨below_set HB'.out GB_.out⟩⟩
  ·have cb : decide ((n : Int) ≤ 255) = false := decide_eq_false (by omega); have hn := zk (show n = 256 by have := HN.out; have := HN2.out; omega); clear c hlen; go_wp2
   go_ret
   have hn := hn.out; subst hn; exact ⟨_, rfl, Kd.R_mono HO.out (fun _ _ => trivial), HB'.out⟩
theorem setP_congr {p q : Nat → Bool} : ∀ n, (∀ i, i < n → p i = q i) → setP p n = setP q n
 | 0, _ => rfl
 | n + 1, h => by
  have ih := setP_congr n fun i hi => h i (by omega)
  simp only [setP, ih, h n (by omega)]; by_cases c : 0 < n
  ·rw [h (n - 1) (by omega)]
  ·simp [c]
set_option maxHeartbeats 8000000 in
set_option maxRecDepth 100000 in
theorem R3Meet.calls (k k' : Nat) (A0 A1 : Option Addr) (c0 c1 : Nat) (l0 l1 : List S34) (b b' : Bool) (w : World) (hr0 : Kd.C k34 w A0 l0.length l0) (hc0 : l0.length ≤ c0) (hr1 : Kd.C k34 w A1 l1.length l1) (hc1 : l1.length ≤ c1) (h : leadtrailref03_Valid.f k l0 = some b) (h' : leadtrailref03_Valid.f k' l1 = some b') (hok : b = true → ∀ r ∈ l0, okPiece r = true) (hok' : b' = true → ∀ r ∈ l1, okPiece r = true) (hsm : l0.length ≤ 8796093022207) (hsm' : l1.length ≤ 8796093022207) :
 Calls Try.prog 20 #[.slice A0 l0.length c0, .slice A1 l1.length c1] w fun e w' => ∃ v, e = .returned v ∧ Kd.R k34 34 w' w.heap.size (fun _ => True) v (setP (fun i => membersB b l0 i && membersB b' l1 i) 256) ∧ Below w.heap.size w w' := by
 have hM0 := R3Members.calls k A0 c0 l0 b w hr0 hc0 h hok hsm; have hM1 := fun (w1 : World) (hB : Below w.heap.size w w1) => R3Members.calls k' A1 c1 l1 b' w1 (Kd.C_below hr1 hB) hc1 h' hok' hsm'
 clear hr0 hc0 h hok hr1 hc1 h' hok'; change Calls Try.prog 61 _ w (fun e w' => e = .returned (.agg (bitsV (membersB b l0))) ∧ _) at hM0
 change ∀ w1, Below w.heap.size w w1 → Calls Try.prog 61 _ w1 (fun e w' => e = .returned (.agg (bitsV (membersB b' l1))) ∧ _) at hM1
 generalize membersB b l0 = p at hM0 ⊢; generalize membersB b' l1 = q at hM1 ⊢; go_enter Try.func20, Try.ntmps20
 go_wp2_with (first | (go_at_call 61; refine hM0.mono ?_; rintro e w1 ⟨rfl, hb⟩; clear hM0; have HB2 := zk hb; clear hb) | (go_at_call 61; refine (hM1 _ HB2.out).mono ?_; rintro e w2 ⟨rfl, hb⟩; clear hM1; have HB3 := zk (below_step HB2.out hb); clear hb HB2))
 have Z : bitsV (fun _ => false) = Try.zeroCells99 := bits_zero.symm; rw [run_store_blk _ w2.heap.size 99 Try.zeroCells99 (bitsV p) (blk_alloc (blk_new w2 _) _) (hi99 p) (by rw [bits_zero, bitsV_size, bitsV_size]) (bits_one p)]; have E0 := blk_row _ w2.heap.size _ (bitsV p) (blk_alloc (blk_new w2 (.cells Try.zeroCells99 99)) (.cells Try.zeroCells99 99)); have E1 : (((w2.alloc (.cells Try.zeroCells99 99)).alloc (.cells Try.zeroCells99 99)).setRow w2.heap.size (bitsV p)).heap[w2.heap.size + 1]? = some (.cells Try.zeroCells99 99) := (setRow_other _ _ _ _ (by omega)).trans (blk_new2 w2 _ _); have HB4 := zk (below_setRow (below_alloc (below_alloc HB3.out (.cells Try.zeroCells99 99)) (.cells Try.zeroCells99 99)) (below_size HB3.out) (bitsV p)); have G_ := zk (below_size HB3.out); clear Z HB3; generalize (((w2.alloc (.cells Try.zeroCells99 99)).alloc (.cells Try.zeroCells99 99)).setRow w2.heap.size (bitsV p)) = w3 at E0 E1 HB4 ⊢; generalize w2.heap.size = g at E0 E1 G_ HB4 ⊢; replace E0 := zk E0; replace E1 := zk E1; go_wp2
 rw [run_store_blk _ (g + 1) 99 Try.zeroCells99 (bitsV q) E1.out (hi99 q) (by rw [bits_zero, bitsV_size, bitsV_size]) (bits_one q)]; have D0 := zk ((setRow_other w3 (g + 1) g (bitsV q) (by omega)).trans E0.out); have D1 := zk (blk_row w3 (g + 1) _ (bitsV q) E1.out); have HB5 := zk (below_setRow HB4.out (Nat.le_succ_of_le G_.out) (bitsV q)); clear E0 E1 HB4; generalize w3.setRow (g + 1) (bitsV q) = w4 at D0 D1 HB5 ⊢; go_wp2
 go_loopg [7] 257 (fun kq v7 w' => ∃ n : Nat, v7 = .int .i64 (n : Int) ∧ Aside0 (n + kq = 257) ∧ Aside0 (n ≤ 256) ∧ Aside0 (w'.heap[g]? = some (.cells (bitsV fun j => if j < n then (p j && q j) else p j) 99 (0, 0))) ∧ Aside0 (w'.heap[g + 1]? = some (.cells (bitsV q) 99 (0, 0))) ∧ Aside0 (Below w.heap.size w w'))
 case atStart => exact ⟨0, rfl, ⟨by omega⟩, ⟨by omega⟩, ⟨by simpa using D0.out⟩, D1, HB5⟩
 case round =>
  clear D0 D1 HB5; obtain ⟨n, rfl, HN, HN2, C0, C1, HB'⟩ := hrel
  cases gk with
  | zero => exact absurd HN.out (by have := HN2.out; omega)
  | succ k1 =>
  by_cases c : n ≤ 255
  ·have cb : decide ((n : Int) ≤ 255) = true := decide_eq_true (by omega); have p2 : (0 ≤ (n : Int)) = True := eq_true (by omega); have q2 : ((n : Int) < 256) = True := eq_true (by omega); have c_ := zk c; have hc0 := blk_cell C0.out n; rw [bitsV_get _ _ (by omega), if_neg (Nat.lt_irrefl n)] at hc0; have hc1 := blk_cell C1.out n; rw [bitsV_get _ _ (by omega)] at hc1; have hf0 := blk_frozen C0.out n; clear c; have nextB : ∀ v : Bool, v = (p n && q n) → (bitsV fun j => if j < n then (p j && q j) else p j).setIfInBounds n (.bool v) = bitsV fun j => if j < n + 1 then (p j && q j) else p j := fun v hv => (bitsV_set _ _ _).trans (bitsV_congr fun j _ => by
    by_cases e : j = n
    ·subst e; rw [if_pos rfl, if_pos (Nat.lt_succ_self _), hv]
    ·rw [if_neg e]; by_cases d : j < n
     ·rw [if_pos d, if_pos (by omega)]
     ·rw [if_neg d, if_neg (by omega)])
   cases hpn : p n <;> cases hqn : q n <;> rw [hpn] at hc0 nextB <;> rw [hqn] at hc1 nextB
   all_goals
    go_wp2
    have hN := HN.out; have c := c_.out; go_roundg k1
    case measure => omega
    case rel => exact ⟨n + 1, by rw [w64' (by omega) (by omega)]; simp, ⟨by omega⟩, ⟨by omega⟩, ⟨blk_put C0.out n _ (nextB _ rfl)⟩, ⟨blk_far C1.out (by simp) _⟩, ⟨below_set HB'.out G_.out⟩⟩
  ·have cb : decide ((n : Int) ≤ 255) = false := decide_eq_false (by omega); have hn := zk (show n = 256 by have := HN.out; have := HN2.out; omega); clear c; go_wp2
   refine wp_load_blk 99 (.tmp 5) rfl g rfl _ C0.out 256 4 hu99 (hi99 _) ?_; have hS := R3Set.calls (fun j => if j < n then (p j && q j) else p j) wr; go_wp2_with (go_at_call 62; refine hS.mono ?_; rintro e w9 ⟨v, rfl, ho, hb⟩; have HO9 := zk (Kd.R_lower ho (below_size HB'.out)); have HB9 := zk (below_step HB'.out hb); clear ho hb hS)
   go_ret
   have eS := setP_congr (p := fun j => if j < n then (p j && q j) else p j) (q := fun j => p j && q j) 256 (fun j hj => by
    have := hn.out; show (if j < n then (p j && q j) else p j) = _; rw [if_pos (by omega)])
   exact ⟨v, rfl, by rw [← eS]; exact HO9.out, HB9.out⟩
def leadtrailref03_Meet.f (k : Nat) (l0 l1 : List (S34)) : Option (List (S34)) := (leadtrailref03_memb k l0).bind fun p => (leadtrailref03_memb k l1).bind fun q => some (setP (fun i => p i && q i) 256)
theorem leadtrailref03_Meet.calls (k : Nat) (A0 : Option Addr) (c0 : Nat) (l0 : List (S34)) (A1 : Option Addr) (c1 : Nat) (l1 : List (S34)) (r : List (S34)) (w : World) (hr0 : Kd.C k34 w A0 l0.length l0) (hc0 : l0.length ≤ c0) (hr1 : Kd.C k34 w A1 l1.length l1) (hc1 : l1.length ≤ c1) (h : leadtrailref03_Meet.f k l0 l1 = some r) :
 Calls Try.prog 20 #[.slice A0 l0.length c0, .slice A1 l1.length c1] w fun e w' => ∃ v0_ : Value, e = .returned (v0_) ∧ Kd.R k34 34 w' w.heap.size (fun _ => True) v0_ r ∧ Below w.heap.size w w' := by
 obtain ⟨p, h1, h2⟩ := Option.bind_eq_some_iff.mp h; obtain ⟨q, h3, h4⟩ := Option.bind_eq_some_iff.mp h2; obtain ⟨b, hv, rfl, hok, hsm⟩ := memb_some h1; obtain ⟨b', hv', rfl, hok', hsm'⟩ := memb_some h3; have hh := R3Meet.calls k k A0 A1 c0 c1 l0 l1 b b' w hr0 hc0 hr1 hc1 hv hv' hok hok' hsm hsm'; obtain rfl := Option.some.inj h4; exact hh
end Go.Proofs.Ytoljcfocgaonpaa.I
