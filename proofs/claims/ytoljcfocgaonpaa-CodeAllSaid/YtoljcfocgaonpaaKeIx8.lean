/- Words and walks of this claim, of the text Ix8. -/
import Derived.Test.YtoljcfocgaonpaaKeQW0
import Derived.Test.YtoljcfocgaonpaaKeIx0
import Derived.Test.YtoljcfocgaonpaaKeIx5
import Derived.Test.YtoljcfocgaonpaaKeIx7
namespace Go.Proofs.Ytoljcfocgaonpaa.I
open Go.RowKit Go.Proofs.YtoljcfocgaonpaaW.PrintWords Go.Proofs.YtoljcfocgaonpaaW.PrintLast Go.Proofs.YtoljcfocgaonpaaW.PrintMore
attribute [local go_sem] max2_int min2_int max_two min_two max_three min_three max_four min_four
set_option linter.unusedVariables false
set_option linter.unusedSimpArgs false
def selB (p : Nat → Bool) (k : Int) : Nat → Nat → Int × Bool
 | 0, _ => (0, false)
 | f + 1, x => if p x = true ∧ (cntB p x : Int) = k then ((x : Int), true) else selB p k f (x + 1)
set_option maxHeartbeats 8000000 in
set_option maxRecDepth 100000 in
theorem R3Select.calls (k : Nat) (A0 : Option Addr) (c0 : Nat) (l0 : List S34) (x : Int) (b : Bool) (w : World) (hr0 : Kd.C k34 w A0 l0.length l0) (hc0 : l0.length ≤ c0) (h : leadtrailref03_Valid.f k l0 = some b) (hok : b = true → ∀ r ∈ l0, okPiece r = true) (hsm : l0.length ≤ 8796093022207) :
 Calls Try.prog 18 #[.slice A0 l0.length c0, .int .i64 x] w fun e w' => e = .returned (.tuple #[.int .i64 (selB (membersB b l0) x 256 0).1, .bool (selB (membersB b l0) x 256 0).2]) ∧ Below w.heap.size w w' := by
 have hMem := R3Members.calls k A0 c0 l0 b w hr0 hc0 h hok hsm; clear hr0 hc0 h hok; change Calls Try.prog 61 _ w (fun e w' => e = .returned (.agg (bitsV (membersB b l0))) ∧ _) at hMem
 generalize membersB b l0 = p at hMem ⊢; generalize hR : selB p x 256 0 = R; go_enter Try.func18, Try.ntmps18
 go_wp2_with (go_at_call 61; refine hMem.mono ?_; rintro e w2 ⟨rfl, hb⟩; clear hMem; have HB3 := zk hb; clear hb)
 rw [run_store_new w2 p]; have D := zk (blk_new w2 (.cells (bitsV p) 99)); have HB4 := zk (below_alloc HB3.out (.cells (bitsV p) 99)); have RR := zk hR; clear HB3 hR; generalize w2.heap.size = g at D ⊢; generalize w2.alloc (.cells (bitsV p) 99) = w3 at D HB4 ⊢; go_wp2
 go_loopg [7, 8] 257 (fun kq v7 v8 w' => ∃ n : Nat, v7 = .int .i64 (cntB p n : Nat) ∧ v8 = .int .i64 (n : Int) ∧ Aside0 (n + kq = 257) ∧ Aside0 (n ≤ 256) ∧ Aside0 (selB p x (256 - n) n = R) ∧ Aside0 (w'.heap[g]? = some (.cells (bitsV p) 99 (0, 0))) ∧ Aside0 (Below w.heap.size w w'))
 case atStart => exact ⟨0, rfl, rfl, ⟨by omega⟩, ⟨by omega⟩, RR, D, HB4⟩
 case round =>
  clear RR; obtain ⟨n, rfl, rfl, HN, HN2, RR, C, HB'⟩ := hrel; have hcl := cntB_le p n
  cases gk with
  | zero => exact absurd HN.out (by have := HN2.out; omega)
  | succ k1 =>
  by_cases c : n ≤ 255
  ·have cb : decide ((n : Int) ≤ 255) = true := decide_eq_true (by omega); have p2 : (0 ≤ (n : Int)) = True := eq_true (by omega); have q2 : ((n : Int) < 256) = True := eq_true (by omega); have c_ := zk c; have hcl_ := zk hcl; have hc := blk_cell C.out n; rw [bitsV_get _ _ (by omega)] at hc; have eq1 : 256 - n = (255 - n) + 1 := by omega
   have eq2 : 255 - n = 256 - (n + 1) := by omega
   have hS := zk (show selB p x (256 - n) n = if p n = true ∧ (cntB p n : Int) = x then ((n : Int), true) else selB p x (256 - (n + 1)) (n + 1) by rw [eq1, selB, eq2]); clear c hcl eq1 eq2; cases hpn : p n with
   | true =>
    rw [hpn] at hc; by_cases e : (cntB p n : Int) = x
    ·have hRn := zk (RR.out.symm.trans (hS.out.trans (if_pos ⟨hpn, e⟩))); clear hS RR; subst e; go_wp2
     go_ret2
     rw [hRn.out]; exact ⟨rfl, HB'.out⟩
    ·have eb0 : decide ((cntB p n : Int) = x) = false := decide_eq_false e; have eb1 : ((cntB p n : Int) == x) = false := by simpa using e
     have hRn := zk ((show selB p x (256 - (n + 1)) (n + 1) = R from (hS.out.trans (if_neg fun h => e h.2)).symm.trans RR.out)); go_wp2
     have hcl := hcl_.out; have hN := HN.out; have c := c_.out; go_roundg k1
     case measure => omega
     case rel => exact ⟨n + 1, by simp only [cntB, hpn, if_true]; rw [w64' (by omega) (by omega)]; simp, by rw [w64' (by omega) (by omega)]; simp, ⟨by omega⟩, ⟨by omega⟩, hRn, C, HB'⟩
   | false =>
    rw [hpn] at hc; have hRn := zk ((show selB p x (256 - (n + 1)) (n + 1) = R from (hS.out.trans (if_neg fun h => by rw [hpn] at h; cases h.1)).symm.trans RR.out)); go_wp2
    have hcl := hcl_.out; have hN := HN.out; have c := c_.out; go_roundg k1
    case measure => omega
    case rel => exact ⟨n + 1, by simp only [cntB, hpn, Bool.false_eq_true, if_false, Nat.add_zero], by rw [w64' (by omega) (by omega)]; simp, ⟨by omega⟩, ⟨by omega⟩, hRn, C, HB'⟩
  ·have cb : decide ((n : Int) ≤ 255) = false := decide_eq_false (by omega); have hn := zk (show n = 256 by have := HN.out; have := HN2.out; omega); clear c hcl; go_wp2
   go_ret2
   have hn := hn.out; subst hn; have := RR.out; simp only [Nat.sub_self, selB] at this; rw [← this]; exact ⟨rfl, HB'.out⟩
def leadtrailref03_Select.f (k : Nat) (l0 : List (S34)) (a1 : Int) : Option (Int × Bool) := (leadtrailref03_memb k l0).bind fun p => some (selB p a1 256 0)
theorem leadtrailref03_Select.calls (k : Nat) (A0 : Option Addr) (c0 : Nat) (l0 : List (S34)) (a1 : Int) (r1 : Int) (r2 : Bool) (w : World) (hr0 : Kd.C k34 w A0 l0.length l0) (hc0 : l0.length ≤ c0) (h : leadtrailref03_Select.f k l0 a1 = some (r1, r2)) :
 Calls Try.prog 18 #[.slice A0 l0.length c0, .int .i64 a1] w fun e w' => e = .returned (.tuple #[.int .i64 r1, .bool r2]) ∧ Below w.heap.size w w' := by
 obtain ⟨p, h1, h2⟩ := Option.bind_eq_some_iff.mp h; obtain ⟨b, hv, rfl, hok, hsm⟩ := memb_some h1; have hh := R3Select.calls k A0 c0 l0 a1 b w hr0 hc0 hv hok hsm; have e := Option.some.inj h2; rw [e] at hh; exact hh
set_option maxHeartbeats 8000000 in
set_option maxRecDepth 100000 in
theorem R3Size.calls (k : Nat) (A0 : Option Addr) (c0 : Nat) (l0 : List S34) (b : Bool) (w : World) (hr0 : Kd.C k34 w A0 l0.length l0) (hc0 : l0.length ≤ c0) (h : leadtrailref03_Valid.f k l0 = some b) (hok : b = true → ∀ r ∈ l0, okPiece r = true) (hsm : l0.length ≤ 8796093022207) :
 Calls Try.prog 19 #[.slice A0 l0.length c0] w fun e w' => e = .returned (.int .i64 (cntB (membersB b l0) 256 : Nat)) ∧ Below w.heap.size w w' := by
 have HR0 := zk hr0; have HC0 := zk hc0; have hMem := R3Members.calls k A0 c0 l0 b w hr0 hc0 h hok hsm; clear hr0 hc0 h hok; change Calls Try.prog 61 _ w (fun e w' => e = .returned (.agg (bitsV (membersB b l0))) ∧ _) at hMem
 have HB := zk (Below.refl w.heap.size w); have hle := cntB_le (membersB b l0); generalize membersB b l0 = p at hMem hle ⊢; go_enter Try.func19, Try.ntmps19
 go_wp2_with (go_at_call 61; refine hMem.mono ?_; rintro e w1 ⟨rfl, hb⟩; clear hMem; have HB2 := zk hb; clear hb)
 rw [run_store_new w1 p]; have D := zk (blk_new w1 (.cells (bitsV p) 99)); have HB3 := zk (below_alloc HB2.out (.cells (bitsV p) 99)); clear HB2 HB; generalize w1.heap.size = g at D ⊢; generalize w1.alloc (.cells (bitsV p) 99) = w2 at D HB3 ⊢; go_wp2
 go_loopg [4, 5] 257 (fun kq v4 v5 w' => ∃ n : Nat, v4 = .int .i64 (cntB p n : Nat) ∧ v5 = .int .i64 (n : Int) ∧ Aside0 (n + kq = 257) ∧ Aside0 (n ≤ 256) ∧ Aside0 (w'.heap[g]? = some (.cells (bitsV p) 99 (0, 0))) ∧ Aside0 (Below w.heap.size w w'))
 case atStart => exact ⟨0, rfl, rfl, ⟨by omega⟩, ⟨by omega⟩, D, HB3⟩
 case round =>
  obtain ⟨n, rfl, rfl, HN, HN2, C, HB'⟩ := hrel; have hcl := cntB_le p n
  cases gk with
  | zero => exact absurd HN.out (by have := HN2.out; omega)
  | succ k1 =>
  by_cases c : n ≤ 255
  ·have cb : decide ((n : Int) ≤ 255) = true := decide_eq_true (by omega); have p2 : (0 ≤ (n : Int)) = True := eq_true (by omega); have q2 : ((n : Int) < 256) = True := eq_true (by omega); have c_ := zk c; have hcl_ := zk hcl; have hc := blk_cell C.out n; rw [bitsV_get _ _ (by omega)] at hc; clear c hcl; cases hpn : p n with
   | true =>
    rw [hpn] at hc; go_wp2
    have hcl := hcl_.out; have hN := HN.out; have c := c_.out; go_roundg k1
    case measure => omega
    case rel => exact ⟨n + 1, by simp only [cntB, hpn, if_true]; rw [w64' (by omega) (by omega)]; simp, by rw [w64' (by omega) (by omega)]; simp, ⟨by omega⟩, ⟨by omega⟩, C, HB'⟩
   | false =>
    rw [hpn] at hc; go_wp2
    have hcl := hcl_.out; have hN := HN.out; have c := c_.out; go_roundg k1
    case measure => omega
    case rel => exact ⟨n + 1, by simp only [cntB, hpn, Bool.false_eq_true, if_false, Nat.add_zero], by rw [w64' (by omega) (by omega)]; simp, ⟨by omega⟩, ⟨by omega⟩, C, HB'⟩
  ·have cb : decide ((n : Int) ≤ 255) = false := decide_eq_false (by omega); have hn := zk (show n = 256 by have := HN.out; have := HN2.out; omega); clear c hcl; go_wp2
   go_ret
   have hn := hn.out; subst hn; exact ⟨rfl, HB'.out⟩
def leadtrailref03_Size.f (k : Nat) (l0 : List (S34)) : Option (Int) := (leadtrailref03_memb k l0).bind fun p => some (cntB p 256 : Int)
theorem leadtrailref03_Size.calls (k : Nat) (A0 : Option Addr) (c0 : Nat) (l0 : List (S34)) (r : Int) (w : World) (hr0 : Kd.C k34 w A0 l0.length l0) (hc0 : l0.length ≤ c0) (h : leadtrailref03_Size.f k l0 = some r) :
 Calls Try.prog 19 #[.slice A0 l0.length c0] w fun e w' => e = .returned (.int .i64 r) ∧ Below w.heap.size w w' := by
 obtain ⟨p, h1, h2⟩ := Option.bind_eq_some_iff.mp h; obtain ⟨b, hv, rfl, hok, hsm⟩ := memb_some h1; have hh := R3Size.calls k A0 c0 l0 b w hr0 hc0 hv hok hsm; obtain rfl := Option.some.inj h2; exact hh
def sets_Run_135.l0 : Nat → List (S43) → List (S133) → Int → Int → Option ((List (S43)))
 | 0, _, _, _, _ => none
 | k + 1, x3, x9, x10, x11 => if x11 < x10 then (if 0 ≤ x11 then (if x11 < (x9.length : Int) then (if x3.length < 8796093022208 then (sets_Run_135.l0 k (x3 ++ [(⟨(rd_T133 x9 x11).f0, (rd_T133 x9 x11).f1⟩ : S43)]) x9 x10 (wrap64 (x11 + 1))) else (none)) else (none)) else (none)) else (some x3)
def sets_Run_135.f (k : Nat) (l0 : List (S133)) : Option ((List (S43))) := if 0 ≤ (l0.length : Int) then (if ((l0.length : Int) : Int).toNat ≤ 17592186044416 then (sets_Run_135.l0 k (([] : List (S43))) l0 (l0.length : Int) 0) else (none)) else (none)
set_option maxHeartbeats 8000000 in
set_option maxRecDepth 100000 in
theorem sets_Run_135.calls (k : Nat) (A0 : Option Addr) (c0 : Nat) (l0 : List (S133)) (r : List (S43)) (w : World) (hr0 : Kd.C k133 w A0 l0.length l0) (hc0 : l0.length ≤ c0) (h : sets_Run_135.f k l0 = some r) :
 Calls Try.prog 135 #[.slice A0 l0.length c0] w fun e w' => ∃ v0_ : Value, e = .returned (v0_) ∧ Kd.R k43 43 w' w.heap.size (fun _ => True) v0_ r ∧ Below w.heap.size w w' := by
 have hu133 := Try.underlying133; have HR0 := zk hr0; have HC0 := zk hc0; clear hr0 hc0; have HB := zk (Below.refl w.heap.size w); have H : (if 0 ≤ (l0.length : Int) then (if ((l0.length : Int) : Int).toNat ≤ 17592186044416 then (sets_Run_135.l0 k (([] : List (S43))) l0 (l0.length : Int) 0) else (none)) else (none)) = some r := h; clear h; by_cases c2 : 0 ≤ (l0.length : Int)
 ·rw [if_pos c2] at H; have c2b0 := eq_true c2; have c2b1 : decide (0 ≤ (l0.length : Int)) = true := decide_eq_true c2; clear c2; by_cases c3 : ((l0.length : Int) : Int).toNat ≤ 17592186044416
  ·rw [if_pos c3] at H; have c3b0 := eq_true c3; have c3b1 : decide (((l0.length : Int) : Int).toNat ≤ 17592186044416) = true := decide_eq_true c3; clear c3; obtain ⟨y188, hy188⟩ : ∃ y_ : List (S43), y_ = (([] : List (S43))) := ⟨_, rfl⟩
   replace H : (sets_Run_135.l0 k y188 l0 (l0.length : Int) 0) = some r := by first | (rw [hy188]; with_reducible exact H) | (have H2_ := (Option.bind_some _ _).symm.trans H; rw [hy188]; with_reducible exact H2_) | (have H2_ := (Option.bind_some _ _).symm.trans H; with_reducible exact H2_) | with_reducible exact H | (rw [hy188]; exact H) | exact H
   have Ny188 := zk hy188; clear hy188; have H' := zk H; clear H; go_enter Try.func135, Try.ntmps135
   go_wp2_with (first | ((with_reducible refine gate_dst (N := 8) rfl ?_); refine KdCap.R_makecap k43 _ 43 rfl (N := 8) rfl 36 _ _ rfl (l0.length : Int) rfl rfl Try.underlying36 (.agg #[(.int .i64 0), (.int .i64 0)]) 16 info43 (by decide) (ok := fun _ => True) (okp := fun _ => True) (fun _ hk => hk) trivial zT (Nat.le_trans (Nat.mul_le_mul_right _ (zT : (l0.length : Int).toNat ≤ 17592186044416)) (by omega)) (Below.refl _ _) (Nat.le_refl _) ?_; intro v189 w4 ho5 hb hg_ hnew_; clear hg_ hnew_; (first | rw [← Ny188.out] at ho5 | (simp only [Int.reduceToNat] at ho5; rw [← Ny188.out] at ho5)); have HO190 := zk (Kd.R_lower ho5 (below_size (zU HB.out))); replace HB := zk (below_step (zU HB.out) hb);  clear hb ho5))
   go_loopg [3, 11] k (fun kq v3 v11 w' => ∃ (x3_1 : List (S43)) (x11_1 : Int), v11 = .int .i64 x11_1 ∧ Aside0 (sets_Run_135.l0 kq x3_1 l0 (l0.length : Int) x11_1 = some r) ∧ Aside0 (kq ≤ k) ∧ Aside0 (Kd.R k43 43 w' w.heap.size (fun _ => True) v3 x3_1) ∧ Aside0 (Below w.heap.size w w'))
   case atStart => exact ⟨(y188), (0), zR, H', ⟨Nat.le_refl _⟩, ⟨by (with_reducible repeat (first | apply zA | apply zB | apply zC)); exact HO190.out⟩, ⟨zU HB.out⟩⟩
   case round =>
    clear H'; (try clear c1); (try clear c2); (try clear c2b0); (try clear c2b1); (try clear p2); (try clear c3); (try clear c3b0); (try clear c3b1); obtain ⟨x3_1, x11_1, rfl, HA, HK1, HO_3, HB⟩ := hrel
    cases gk with
    | zero => exact absurd HA.out (by simp [sets_Run_135.l0])
    | succ k1 =>
     have H := HA.out; clear HA; simp only [sets_Run_135.l0] at H; by_cases c6 : x11_1 < (l0.length : Int)
     ·rw [if_pos c6] at H; have c6b0 : decide (x11_1 < (l0.length : Int)) = true := decide_eq_true c6; clear c6; by_cases c7 : 0 ≤ x11_1
      ·rw [if_pos c7] at H; have c7b0 : decide (0 ≤ x11_1) = true := decide_eq_true c7; clear c7; by_cases c8 : x11_1 < (l0.length : Int)
       ·rw [if_pos c8] at H; have c8b0 : decide (x11_1 < (l0.length : Int)) = true := decide_eq_true c8; clear c8; by_cases c9 : x3_1.length < 8796093022208
        ·rw [if_pos c9] at H; have LMc9 := zk c9; clear c9; obtain ⟨y193, hy193⟩ : ∃ y_ : List (S43), y_ = (x3_1 ++ [(⟨(rd_T133 l0 x11_1).f0, (rd_T133 l0 x11_1).f1⟩ : S43)]) := ⟨_, rfl⟩
         replace H : (sets_Run_135.l0 k1 y193 l0 (l0.length : Int) (wrap64 (x11_1 + 1))) = some r := by first | (rw [hy193]; with_reducible exact H) | (have H2_ := (Option.bind_some _ _).symm.trans H; rw [hy193]; with_reducible exact H2_) | (have H2_ := (Option.bind_some _ _).symm.trans H; with_reducible exact H2_) | with_reducible exact H | (rw [hy193]; exact H) | exact H
         have Ny193 := zk hy193; clear hy193; have H' := zk H; clear H; have p191 : 0 ≤ (x11_1 : Int) := zT; have q191 : x11_1 < (l0.length : Int) := zT; obtain ⟨ad191, e191, hx191_0, hx191_1⟩ := at_T133 HR0.out x11_1 p191 q191; cases e191; replace hx191_0 := zcl HB.out hx191_0; replace hx191_1 := zcl HB.out hx191_1; replace p191 := eq_true p191; replace q191 := eq_true q191; go_wp2_with (first | ((with_reducible refine gate_dst (N := 5) rfl ?_); refine box_event ?hg (N := 5) ?hd (cs := #[.int .i64 0, .int .i64 0]) (t := 133) ?hr ?_; (case hd => rfl); (case hg => rfl); (case hr => first | (go_simp; done) | (go_simp; rfl)); intro gb192 hg w10 hbox hb; replace HO_3 := zk (Kd.R_below (zr HO_3.out) hb); have BK192 := zk (hbox); have GE192 := zk ((zg hg HB.out : w.heap.size ≤ gb192)); replace HB := zk (below_step (zU HB.out) hb);  clear hb hbox hg; have hcz11_0 : w10.cell? ⟨gb192, 0, none⟩ = some (.int .i64 0) := zh BK192.out 0; have hcz11_1 : w10.cell? ⟨gb192, 1, none⟩ = some (.int .i64 0) := zh BK192.out 1; have hfz11_0 := blk_frozen BK192.out 0; have hfz11_1 := blk_frozen BK192.out 1) | ((with_reducible refine gate_builtin (b := .append) (xs := #[.tmp 15, .tmp 17]) rfl ?_); at_builtin; refine Kd.R_append k43 (w0 := w) w.heap.size rfl (.tmp 15) (.tmp 17) 36 43 (.agg #[(.int .i64 0), (.int .i64 0)]) 16 rfl Try.underlying36 info43 rfl (by decide) (by omega) u3 x3_1 (⟨(rd_T133 l0 x11_1).f0, (rd_T133 l0 x11_1).f1⟩ : S43) [.int .i64 ((rd_T133 l0 x11_1).f0), .int .i64 ((rd_T133 l0 x11_1).f1)] (fun _ => True) (fun _ => False) rfl (by first | (go_simp; done) | (go_simp; rfl)) ?aP (fun _ hk => hk.elim) ?aF ?aO ?aB ?aS ?aL ?_; (case aP => exact k43_mkM _ _ _ (⟨(rd_T133 l0 x11_1).f0, (rd_T133 l0 x11_1).f1⟩ : S43)); (case aB => exact (zU HB.out)); (case aF => exact (fun _ _ => trivial)); (case aO => exact (by (with_reducible repeat (first | apply zA | apply zB | apply zC)); exact Kd.R_mono (Kd.R_far (p := ⟨gb192, 1, none⟩) (Kd.R_far (p := ⟨gb192, 0, none⟩) (Kd.R_types HO_3.out BK192.out (by decide)) (fun _ hk => hk.2) (.int .i64 ((rd_T133 l0 x11_1).f0))) (fun _ hk => hk.2) (.int .i64 ((rd_T133 l0 x11_1).f1))) (fun _ hk => trivial))); (case aS => exact (below_size (zU HB.out))); (case aL => have := LMc9.out; omega); intro v194 w12 ho hb hg hat; rw [← Ny193.out] at ho; have n0_ := zk (blk_grown (g := gb192) (o := .cells #[.int .i64 ((rd_T133 l0 x11_1).f0), .int .i64 ((rd_T133 l0 x11_1).f1)] 133 (0, 0)) (by (with_reducible repeat (first | refine blk_drewN ?_ _ | refine blk_drew ?_ | refine blk_alloc ?_ _)); refine blk_put (cs := #[.int .i64 ((rd_T133 l0 x11_1).f0), .int .i64 0]) ?_ 1 _ rfl; (with_reducible repeat (first | refine blk_drewN ?_ _ | refine blk_drew ?_ | refine blk_alloc ?_ _)); refine blk_put (cs := #[.int .i64 0, .int .i64 0]) ?_ 0 _ rfl; exact zb BK192.out) hg (Kd.R_ne HO_3.out BK192.out (by decide))); have n1_ := zk (hb); have n2_ := zk (ho); clear BK192; clear HB; clear HO_3; have BK192 := n0_; have HB := n1_; have HO195 := n2_; clear n0_ n1_ n2_; clear ho hb hg hat))
         go_roundg k1
         case measure => have := HK1.out; omega
         case rel => exact ⟨(y193), (wrap64 (x11_1 + 1)), zR, H', ⟨by have := HK1.out; omega⟩, ⟨by (with_reducible repeat (first | apply zA | apply zB | apply zC)); exact HO195.out⟩, ⟨zU HB.out⟩⟩
        ·rw [if_neg c9] at H; exact absurd H (by simp)
       ·rw [if_neg c8] at H; exact absurd H (by simp)
      ·rw [if_neg c7] at H; exact absurd H (by simp)
     ·rw [if_neg c6] at H; have c6b0 : decide (x11_1 < (l0.length : Int)) = false := decide_eq_false c6; clear c6; obtain rfl := Option.some.inj H; go_wp2
      go_ret
      exact ⟨_, ze, by (with_reducible repeat (first | apply zA | apply zB | apply zC)); exact HO_3.out, zU HB.out⟩
  ·rw [if_neg c3] at H; exact absurd H (by simp)
 ·rw [if_neg c2] at H; exact absurd H (by simp)
def scalars_back.f (k : Nat) (l0 : List (S133)) : Option ((List (S43))) := (sets_Run_135.f k l0).bind fun t196 => (some t196)
set_option maxHeartbeats 8000000 in
set_option maxRecDepth 100000 in
theorem scalars_back.calls (k : Nat) (A0 : Option Addr) (c0 : Nat) (l0 : List (S133)) (r : List (S43)) (w : World) (hr0 : Kd.C k133 w A0 l0.length l0) (hc0 : l0.length ≤ c0) (h : scalars_back.f k l0 = some r) :
 Calls Try.prog 112 #[.slice A0 l0.length c0] w fun e w' => ∃ v0_ : Value, e = .returned (v0_) ∧ Kd.R k43 43 w' w.heap.size (fun _ => True) v0_ r ∧ Below w.heap.size w w' := by
 have HR0 := zk hr0; have HC0 := zk hc0; clear hr0 hc0; have HB := zk (Below.refl w.heap.size w); have H : ((sets_Run_135.f k l0).bind fun t196 => (some t196)) = some r := h; clear h; replace H := Option.bind_eq_some_iff.mp H; obtain ⟨t196, A20, H⟩ := H; replace H : (some t196) = some r := H; have A2 := zk A20; clear A20; obtain rfl := Option.some.inj H; go_enter Try.func112, Try.ntmps112
 go_wp2_with (first | ((with_reducible refine gate_callee (f := 135) rfl ?_); refine goesL_ (some 4) rfl rfl Try.func135 zz rfl #[.slice A0 l0.length c0] rfl zM ?_; (with_reducible refine (sets_Run_135.calls k _ _ l0 t196 _ ?side1 ?side2 A2.out).mono ?_); (case side1 => exact zc HR0.out); (case side2 => exact HC0.out); rintro e w3 ⟨v197, rfl, ho0, hb⟩; refine ⟨_, rfl, ?_⟩; have HO198 := zk (Kd.R_lower ho0 (below_size (zU HB.out))); replace HB := zk (below_step (zU HB.out) hb);  (try clear hb); (try clear hb2); (try clear hk); (try clear hi); (try clear ho0)))
 go_ret
 exact ⟨_, ze, by (with_reducible repeat (first | apply zA | apply zB | apply zC)); exact HO198.out, zU HB.out⟩
def api_Range.l0 : Nat → List (S133) → List (S43) → Int → Int → Option ((List (S133)))
 | 0, _, _, _, _ => none
 | k + 1, x3, x9, x10, x11 => if x11 < x10 then (if 0 ≤ x11 then (if x11 < (x9.length : Int) then (if x3.length < 8796093022208 then (api_Range.l0 k (x3 ++ [(⟨(rd_T43 x9 x11).f0, (rd_T43 x9 x11).f1⟩ : S133)]) x9 x10 (wrap64 (x11 + 1))) else (none)) else (none)) else (none)) else (some x3)
def api_Range.f (k : Nat) (l0 : List (S43)) : Option ((List (S133))) := if 0 ≤ (l0.length : Int) then (if ((l0.length : Int) : Int).toNat ≤ 17592186044416 then (api_Range.l0 k (([] : List (S133))) l0 (l0.length : Int) 0) else (none)) else (none)
set_option maxHeartbeats 8000000 in
set_option maxRecDepth 100000 in
theorem api_Range.calls (k : Nat) (A0 : Option Addr) (c0 : Nat) (l0 : List (S43)) (r : List (S133)) (w : World) (hr0 : Kd.C k43 w A0 l0.length l0) (hc0 : l0.length ≤ c0) (h : api_Range.f k l0 = some r) :
 Calls Try.prog 113 #[.slice A0 l0.length c0] w fun e w' => ∃ v0_ : Value, e = .returned (v0_) ∧ Kd.R k133 133 w' w.heap.size (fun _ => True) v0_ r ∧ Below w.heap.size w w' := by
 have hu43 := Try.underlying43; have HR0 := zk hr0; have HC0 := zk hc0; clear hr0 hc0; have HB := zk (Below.refl w.heap.size w); have H : (if 0 ≤ (l0.length : Int) then (if ((l0.length : Int) : Int).toNat ≤ 17592186044416 then (api_Range.l0 k (([] : List (S133))) l0 (l0.length : Int) 0) else (none)) else (none)) = some r := h; clear h; by_cases c2 : 0 ≤ (l0.length : Int)
 ·rw [if_pos c2] at H; have c2b0 := eq_true c2; have c2b1 : decide (0 ≤ (l0.length : Int)) = true := decide_eq_true c2; clear c2; by_cases c3 : ((l0.length : Int) : Int).toNat ≤ 17592186044416
  ·rw [if_pos c3] at H; have c3b0 := eq_true c3; have c3b1 : decide (((l0.length : Int) : Int).toNat ≤ 17592186044416) = true := decide_eq_true c3; clear c3; obtain ⟨y199, hy199⟩ : ∃ y_ : List (S133), y_ = (([] : List (S133))) := ⟨_, rfl⟩
   replace H : (api_Range.l0 k y199 l0 (l0.length : Int) 0) = some r := by first | (rw [hy199]; with_reducible exact H) | (have H2_ := (Option.bind_some _ _).symm.trans H; rw [hy199]; with_reducible exact H2_) | (have H2_ := (Option.bind_some _ _).symm.trans H; with_reducible exact H2_) | with_reducible exact H | (rw [hy199]; exact H) | exact H
   have Ny199 := zk hy199; clear hy199; have H' := zk H; clear H; go_enter Try.func113, Try.ntmps113
   go_wp2_with (first | ((with_reducible refine gate_dst (N := 8) rfl ?_); refine KdCap.R_makecap k133 _ 133 rfl (N := 8) rfl 97 _ _ rfl (l0.length : Int) rfl rfl Try.underlying97 (.agg #[(.int .i64 0), (.int .i64 0)]) 16 info133 (by decide) (ok := fun _ => True) (okp := fun _ => True) (fun _ hk => hk) trivial zT (Nat.le_trans (Nat.mul_le_mul_right _ (zT : (l0.length : Int).toNat ≤ 17592186044416)) (by omega)) (Below.refl _ _) (Nat.le_refl _) ?_; intro v200 w4 ho5 hb hg_ hnew_; clear hg_ hnew_; (first | rw [← Ny199.out] at ho5 | (simp only [Int.reduceToNat] at ho5; rw [← Ny199.out] at ho5)); have HO201 := zk (Kd.R_lower ho5 (below_size (zU HB.out))); replace HB := zk (below_step (zU HB.out) hb);  clear hb ho5))
   go_loopg [3, 11] k (fun kq v3 v11 w' => ∃ (x3_1 : List (S133)) (x11_1 : Int), v11 = .int .i64 x11_1 ∧ Aside0 (api_Range.l0 kq x3_1 l0 (l0.length : Int) x11_1 = some r) ∧ Aside0 (kq ≤ k) ∧ Aside0 (Kd.R k133 133 w' w.heap.size (fun _ => True) v3 x3_1) ∧ Aside0 (Below w.heap.size w w'))
   case atStart => exact ⟨(y199), (0), zR, H', ⟨Nat.le_refl _⟩, ⟨by (with_reducible repeat (first | apply zA | apply zB | apply zC)); exact HO201.out⟩, ⟨zU HB.out⟩⟩
   case round =>
    clear H'; (try clear c1); (try clear c2); (try clear c2b0); (try clear c2b1); (try clear p2); (try clear c3); (try clear c3b0); (try clear c3b1); obtain ⟨x3_1, x11_1, rfl, HA, HK1, HO_3, HB⟩ := hrel
    cases gk with
    | zero => exact absurd HA.out (by simp [api_Range.l0])
    | succ k1 =>
     have H := HA.out; clear HA; simp only [api_Range.l0] at H; by_cases c6 : x11_1 < (l0.length : Int)
     ·rw [if_pos c6] at H; have c6b0 : decide (x11_1 < (l0.length : Int)) = true := decide_eq_true c6; clear c6; by_cases c7 : 0 ≤ x11_1
      ·rw [if_pos c7] at H; have c7b0 : decide (0 ≤ x11_1) = true := decide_eq_true c7; clear c7; by_cases c8 : x11_1 < (l0.length : Int)
       ·rw [if_pos c8] at H; have c8b0 : decide (x11_1 < (l0.length : Int)) = true := decide_eq_true c8; clear c8; by_cases c9 : x3_1.length < 8796093022208
        ·rw [if_pos c9] at H; have LMc9 := zk c9; clear c9; obtain ⟨y204, hy204⟩ : ∃ y_ : List (S133), y_ = (x3_1 ++ [(⟨(rd_T43 l0 x11_1).f0, (rd_T43 l0 x11_1).f1⟩ : S133)]) := ⟨_, rfl⟩
         replace H : (api_Range.l0 k1 y204 l0 (l0.length : Int) (wrap64 (x11_1 + 1))) = some r := by first | (rw [hy204]; with_reducible exact H) | (have H2_ := (Option.bind_some _ _).symm.trans H; rw [hy204]; with_reducible exact H2_) | (have H2_ := (Option.bind_some _ _).symm.trans H; with_reducible exact H2_) | with_reducible exact H | (rw [hy204]; exact H) | exact H
         have Ny204 := zk hy204; clear hy204; have H' := zk H; clear H; have p202 : 0 ≤ (x11_1 : Int) := zT; have q202 : x11_1 < (l0.length : Int) := zT; obtain ⟨ad202, e202, hx202_0, hx202_1⟩ := at_T43 HR0.out x11_1 p202 q202; cases e202; replace hx202_0 := zcl HB.out hx202_0; replace hx202_1 := zcl HB.out hx202_1; replace p202 := eq_true p202; replace q202 := eq_true q202; go_wp2_with (first | ((with_reducible refine gate_dst (N := 5) rfl ?_); refine box_event ?hg (N := 5) ?hd (cs := #[.int .i64 0, .int .i64 0]) (t := 43) ?hr ?_; (case hd => rfl); (case hg => rfl); (case hr => first | (go_simp; done) | (go_simp; rfl)); intro gb203 hg w10 hbox hb; replace HO_3 := zk (Kd.R_below (zr HO_3.out) hb); have BK203 := zk (hbox); have GE203 := zk ((zg hg HB.out : w.heap.size ≤ gb203)); replace HB := zk (below_step (zU HB.out) hb);  clear hb hbox hg; have hcz11_0 : w10.cell? ⟨gb203, 0, none⟩ = some (.int .i64 0) := zh BK203.out 0; have hcz11_1 : w10.cell? ⟨gb203, 1, none⟩ = some (.int .i64 0) := zh BK203.out 1; have hfz11_0 := blk_frozen BK203.out 0; have hfz11_1 := blk_frozen BK203.out 1) | ((with_reducible refine gate_builtin (b := .append) (xs := #[.tmp 15, .tmp 17]) rfl ?_); at_builtin; refine Kd.R_append k133 (w0 := w) w.heap.size rfl (.tmp 15) (.tmp 17) 97 133 (.agg #[(.int .i64 0), (.int .i64 0)]) 16 rfl Try.underlying97 info133 rfl (by decide) (by omega) u3 x3_1 (⟨(rd_T43 l0 x11_1).f0, (rd_T43 l0 x11_1).f1⟩ : S133) [.int .i64 ((rd_T43 l0 x11_1).f0), .int .i64 ((rd_T43 l0 x11_1).f1)] (fun _ => True) (fun _ => False) rfl (by first | (go_simp; done) | (go_simp; rfl)) ?aP (fun _ hk => hk.elim) ?aF ?aO ?aB ?aS ?aL ?_; (case aP => exact k133_mkM _ _ _ (⟨(rd_T43 l0 x11_1).f0, (rd_T43 l0 x11_1).f1⟩ : S133)); (case aB => exact (zU HB.out)); (case aF => exact (fun _ _ => trivial)); (case aO => exact (by (with_reducible repeat (first | apply zA | apply zB | apply zC)); exact Kd.R_mono (Kd.R_far (p := ⟨gb203, 1, none⟩) (Kd.R_far (p := ⟨gb203, 0, none⟩) (Kd.R_types HO_3.out BK203.out (by decide)) (fun _ hk => hk.2) (.int .i64 ((rd_T43 l0 x11_1).f0))) (fun _ hk => hk.2) (.int .i64 ((rd_T43 l0 x11_1).f1))) (fun _ hk => trivial))); (case aS => exact (below_size (zU HB.out))); (case aL => have := LMc9.out; omega); intro v205 w12 ho hb hg hat; rw [← Ny204.out] at ho; have n0_ := zk (blk_grown (g := gb203) (o := .cells #[.int .i64 ((rd_T43 l0 x11_1).f0), .int .i64 ((rd_T43 l0 x11_1).f1)] 43 (0, 0)) (by (with_reducible repeat (first | refine blk_drewN ?_ _ | refine blk_drew ?_ | refine blk_alloc ?_ _)); refine blk_put (cs := #[.int .i64 ((rd_T43 l0 x11_1).f0), .int .i64 0]) ?_ 1 _ rfl; (with_reducible repeat (first | refine blk_drewN ?_ _ | refine blk_drew ?_ | refine blk_alloc ?_ _)); refine blk_put (cs := #[.int .i64 0, .int .i64 0]) ?_ 0 _ rfl; exact zb BK203.out) hg (Kd.R_ne HO_3.out BK203.out (by decide))); have n1_ := zk (hb); have n2_ := zk (ho); clear BK203; clear HB; clear HO_3; have BK203 := n0_; have HB := n1_; have HO206 := n2_; clear n0_ n1_ n2_; clear ho hb hg hat))
         go_roundg k1
         case measure => have := HK1.out; omega
         case rel => exact ⟨(y204), (wrap64 (x11_1 + 1)), zR, H', ⟨by have := HK1.out; omega⟩, ⟨by (with_reducible repeat (first | apply zA | apply zB | apply zC)); exact HO206.out⟩, ⟨zU HB.out⟩⟩
        ·rw [if_neg c9] at H; exact absurd H (by simp)
       ·rw [if_neg c8] at H; exact absurd H (by simp)
      ·rw [if_neg c7] at H; exact absurd H (by simp)
     ·rw [if_neg c6] at H; have c6b0 : decide (x11_1 < (l0.length : Int)) = false := decide_eq_false c6; clear c6; obtain rfl := Option.some.inj H; go_wp2
      go_ret
      exact ⟨_, ze, by (with_reducible repeat (first | apply zA | apply zB | apply zC)); exact HO_3.out, zU HB.out⟩
  ·rw [if_neg c3] at H; exact absurd H (by simp)
 ·rw [if_neg c2] at H; exact absurd H (by simp)
end Go.Proofs.Ytoljcfocgaonpaa.I
