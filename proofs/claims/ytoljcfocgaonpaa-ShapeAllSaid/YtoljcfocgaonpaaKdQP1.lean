/- Words and laws of this claim, of 6 texts. -/
import Derived.Test.YtoljcfocgaonpaaKdQP0
import Derived.Test.YtoljcfocgaonpaaKdIx16
import Derived.Test.YtoljcfocgaonpaaKdIx17
import Derived.Test.YtoljcfocgaonpaaKdIx18
import Derived.Test.YtoljcfocgaonpaaKdIx23
import Derived.RangeFuncNested
import Derived.RangeFuncBound
import Derived.RangeFuncCalls
import Derived.RangeFuncLeaves
import Derived.Shelf.Abstract
import Derived.Shelf.RegionOpen
import Derived.WalkKit
import Derived.OwnWalkIn
import Derived.TacticsInMore
import Derived.LoopNIn
import Derived.LoopIn
import Derived.Test.YtoljcfocgaonpaaKdIx0
import Derived.Test.YtoljcfocgaonpaaKdIx4
import Derived.Test.YtoljcfocgaonpaaKdIx5
import Derived.Test.YtoljcfocgaonpaaKdIx6
import Derived.Test.YtoljcfocgaonpaaKdIx15
import Derived.Test.YtoljcfocgaonpaaKdQW1
import Derived.OpenShut
import Derived.Test.YtoljcfocgaonpaaKdIx13
import Derived.Test.YtoljcfocgaonpaaKdIx12
import Derived.Test.YtoljcfocgaonpaaKdIx8
import Derived.Test.YtoljcfocgaonpaaKdIx9
section
namespace Go.Proofs.Ytoljcfocgaonpaa.I
open Go.RowKit Go.Shelf Go.Proofs.YtoljcfocgaonpaaW.PrintWords Go.Proofs.YtoljcfocgaonpaaW.PrintLast Go.Proofs.YtoljcfocgaonpaaW.PrintMore
set_option linter.unusedVariables false
set_option linter.unusedSimpArgs false
attribute [local go_sem] Oper.semAt_some
attribute [local go_sem] max2_m min2_m max_two min_two max_three min_three max_four min_four
def EnvA (W : World) (b bk bn : Nat) (A : Option Addr) (m c : Nat) (f early kI nI : Int) : Prop :=
  W.heap[b]? = some (.cells #[.slice A m c, .int .i64 f] 47 (0, 0)) ∧ W.heap[b + 1]? = some (.cells #[.int .i64 early] 3 (0, 0)) ∧ W.heap[b + 1 + 1]? = some (.cells #[.bool false] 4 (0, 0)) ∧ W.heap[bk]? = some (.cells #[.int .i64 kI] 3 (0, 0)) ∧ W.heap[bn]? = some (.cells #[.int .i64 nI] 3 (0, 0))
theorem EnvA.below {W W' : World} {b bk bn : Nat} {A : Option Addr} {m c : Nat} {f early kI nI : Int} (h : EnvA W b bk bn A m c f early kI nI) (hb : Below W.heap.size W W') : EnvA W' b bk bn A m c f early kI nI :=
  ⟨blk_below h.1 hb, blk_below h.2.1 hb, blk_below h.2.2.1 hb, blk_below h.2.2.2.1 hb, blk_below h.2.2.2.2 hb⟩
theorem EnvA.cells {W : World} {b bk bn : Nat} {A : Option Addr} {m c : Nat} {f early kI nI : Int} (h : EnvA W b bk bn A m c f early kI nI) : W.cell? ⟨b, 0, none⟩ = some (.slice A m c) ∧ W.cell? ⟨b, 1, none⟩ = some (.int .i64 f) ∧ W.cell? ⟨b + 1, 0, none⟩ = some (.int .i64 early) ∧ W.cell? ⟨b + 1 + 1, 0, none⟩ = some (.bool false) ∧ W.cell? ⟨bk, 0, none⟩ = some (.int .i64 kI) ∧ W.cell? ⟨bn, 0, none⟩ = some (.int .i64 nI) ∧ W.frozen? ⟨b + 1 + 1, 0, none⟩ = false ∧ W.frozen? ⟨bk, 0, none⟩ = false ∧ W.frozen? ⟨bn, 0, none⟩ = false :=
  ⟨(blk_cell h.1 0).trans rfl, (blk_cell h.1 1).trans rfl, (blk_cell h.2.1 0).trans rfl, (blk_cell h.2.2.1 0).trans rfl, (blk_cell h.2.2.2.1 0).trans rfl, (blk_cell h.2.2.2.2 0).trans rfl, blk_frozen h.2.2.1 0, blk_frozen h.2.2.2.1 0, blk_frozen h.2.2.2.2 0⟩
theorem EnvA.moved {W W' : World} {b bk bn : Nat} {A : Option Addr} {m c : Nat} {f early kI nI : Int} (h : EnvA W b bk bn A m c f early kI nI) (hk : ∀ k o, W.heap[k]? = some o → k ≤ b + 1 + 1 ∨ k = bk ∨ k = bn → W'.heap[k]? = W.heap[k]?) : EnvA W' b bk bn A m c f early kI nI :=
  ⟨(hk _ _ h.1 (by omega)).trans h.1, (hk _ _ h.2.1 (by omega)).trans h.2.1, (hk _ _ h.2.2.1 (by omega)).trans h.2.2.1, (hk _ _ h.2.2.2.1 (by omega)).trans h.2.2.2.1, (hk _ _ h.2.2.2.2 (by omega)).trans h.2.2.2.2⟩
theorem EnvA.drewn {W : World} {b bk bn : Nat} {A : Option Addr} {m c : Nat} {f early kI nI : Int} (h : EnvA W b bk bn A m c f early kI nI) : EnvA W.drew b bk bn A m c f early kI nI := h
theorem EnvA.step {W : World} {b bk bn : Nat} {A : Option Addr} {m c : Nat} {f early kI nI : Int} (h : EnvA W b bk bn A m c f early kI nI) (h1 : b + 1 + 1 < bk ∧ bk < bn) (k' n' : Int) : EnvA ((W.setCell ⟨bk, 0, none⟩ (.int .i64 k')).setCell ⟨bn, 0, none⟩ (.int .i64 n')) b bk bn A m c f early k' n' :=
  ⟨blk_set_far (blk_set_far h.1 (by omega) _) (by omega) _, blk_set_far (blk_set_far h.2.1 (by omega) _) (by omega) _, blk_set_far (blk_set_far h.2.2.1 (by omega) _) (by omega) _, blk_set_far (blk_set h.2.2.2.1 _) (by omega) _, blk_set (blk_set_far h.2.2.2.2 (by omega) _) _⟩
def TMS (A0 : Option Addr) (l : List (List S34)) (c0 b gf gp : Nat) (f fr early cnt : Int) (j : Nat) (u : Nat → Value) : Array Value :=
  #[.agg #[.slice A0 l.length c0, .int .i64 f], .int .i64 fr, .int .i64 early, .pointer (some ⟨b, 0, none⟩), u 4, .pointer (some ⟨b + 1, 0, none⟩), .pointer (some ⟨b + 1 + 1, 0, none⟩), .func (.func 80) #[] #[.pointer (some ⟨gf, 0, none⟩), .pointer (some ⟨gp, 0, none⟩)], .int .i64 cnt, .int .i64 (j : Int), u 10, u 11, u 12, u 13, u 14, u 15, u 16, u 17, u 18, u 19, u 20, u 21, u 22, u 23, u 24, u 25, u 26, u 27, u 28, u 29, u 30, u 31, u 32, u 33, u 34, u 35, u 36, u 37, u 38, u 39, u 40, u 41, u 42, u 43, u 44, u 45, u 46, u 47, u 48, u 49, u 50, u 51, u 52, u 53, u 54, u 55, u 56, u 57, u 58, u 59, u 60, u 61, u 62, u 63, u 64, u 65, u 66, u 67, u 68, u 69, u 70, u 71, u 72, u 73]
def turnsLeftS (a : Act) : Nat := match a.tmps[9]? with | some (Value.int _ i) => (2 - i).toNat | _ => 0
theorem CN_kept {A B : World} {ik : IntKind} {row : Option Nat} {Ad : Option Addr} {n : Nat} {l : List Int} (h : Kd.C (Kd.int ik) A Ad n l) (hg : A.grownBy B row) (hr : ∀ r, row = some r → ∃ o : Obj, A.heap[r]? = some o ∧ o.isCells = false) : Kd.C (Kd.int ik) B Ad n l :=
  ⟨h.1, h.2.1, fun hn => by
    obtain ⟨ad, e, hc⟩ := h.2.2 hn
    exact ⟨ad, e, fun j p hj => by
      obtain ⟨c, hs, hk, hcell⟩ := hc j p hj
      exact ⟨c, hs, hk, fun i u hu => cell_kept (hcell i u hu) hg hr⟩⟩⟩
set_option maxRecDepth 100000 in
set_option maxHeartbeats 8000000 in
theorem lawSAll.walk (k kc : Nat) (A0 : Option Addr) (c0 : Nat) (l : List (List S34)) (f fr early : Int) (r1 : List Int) (ok : Bool) (N : Nat) (sq : Nat → List Int) (L : Nat → List S133) (cnt : Int) (w : World) (hr0 : Kd.C (Kd.slice 34 k34) w A0 l.length l) (hc0 : l.length ≤ c0)
    (hfix : leadtraillaw09_fixed.f k = some true) (hcp : leadtrailref08_CopyShape.f k l f = some (l, f)) (hcp2 : scheme_Copy.f k [⟨l, f⟩] = some [⟨l, f⟩]) (hF : AllF kc l f fr r1 ok N sq L)
    (hcnt : leadtrailref09_Count.f k l f = some cnt) (hN : (N : Int) = max (cnt - max fr 0) 0) (hfr : max fr 0 ≤ 9223372036854775807) (hc3 : 0 ≤ cnt ∧ cnt ≤ 1073741824) (hbn : 1 ≤ N → max fr 0 + N ≤ 4611686018427387904)
    (hun : ∀ i, i < N → ∃ k, leadtrailref09_Unrank.f k l f (max fr 0 + i) = some (sq i, true)) :
    Calls Try.prog 7 #[.agg #[.slice A0 l.length c0, .int .i64 f], .int .i64 fr, .int .i64 early] w fun e w' => e = .returned (.bool true) ∧ Below w.heap.size w w' := by
  have hu47 := Try.underlying47
  have HR := Aside0.mk hr0
  have HC := Aside0.mk hc0
  have HFIX := Aside0.mk hfix
  have HCP := Aside0.mk hcp
  have HCP2 := Aside0.mk hcp2
  have HF := Aside0.mk hF
  have HCNT := Aside0.mk hcnt
  have HN := Aside0.mk hN
  have HFR := Aside0.mk hfr
  have HC3 := Aside0.mk hc3
  have HBN := Aside0.mk hbn
  have HUN := Aside0.mk hun
  clear hr0 hc0 hfix hcp hcp2 hF hcnt hN hfr hc3 hbn hun
  have B0 := Aside0.mk (blk_alloc (blk_alloc (blk_new w (.cells #[.slice A0 l.length c0, .int .i64 f] 47)) (.cells #[.int .i64 early] 3)) (.cells #[.bool false] 4))
  have B1 := Aside0.mk (blk_alloc (blk_new2 w (.cells #[.slice A0 l.length c0, .int .i64 f] 47) (.cells #[.int .i64 early] 3)) (.cells #[.bool false] 4))
  have B2 := Aside0.mk (blk_new2 (w.alloc (.cells #[.slice A0 l.length c0, .int .i64 f] 47)) (.cells #[.int .i64 early] 3) (.cells #[.bool false] 4))
  have HB := Aside0.mk (below_alloc (below_alloc (below_alloc (Below.refl w.heap.size w) (.cells #[.slice A0 l.length c0, .int .i64 f] 47)) (.cells #[.int .i64 early] 3)) (.cells #[.bool false] 4))
  simp only [World.size_alloc, Nat.add_assoc, Nat.reduceAdd] at B2
  refine (callsIn_wide (n := 4)).1 ?_
  refine callsIn_of_wp_marks Try.func7 rfl trivial ?_
  simp only [Try.ntmps7, List.size_toArray, List.length_cons, List.length_nil, Nat.reduceAdd, Nat.reduceSub, Array.replicate_succ, Array.replicate_zero, List.push_toArray, List.append_toArray, List.nil_append, List.cons_append]
  refine wpIn_wide.2 ?_
  go_wp2_with (first
    | (go_at_call 29; (first | refine (leadtraillaw09_fixed.calls k true _ HFIX.out rfl).mono ?_ | refine (leadtraillaw09_fixed.calls k true _ HFIX.out).mono ?_); rintro e w1 ⟨rfl, hb⟩; have n0_ := Aside0.mk (blk_below B0.out hb); have n1_ := Aside0.mk (blk_below B1.out hb); have n2_ := Aside0.mk (blk_below B2.out hb); have n3_ := Aside0.mk (below_step HB.out hb); clear B0 B1 B2 HB hb; have B0 := n0_; have B1 := n1_; have B2 := n2_; have HB := n3_; clear n0_ n1_ n2_ n3_; have hq0 : w1.cell? ⟨w.heap.size, 0, none⟩ = some (.slice A0 l.length c0) := (blk_cell B0.out 0).trans rfl; have hq1 : w1.cell? ⟨w.heap.size, 1, none⟩ = some (.int .i64 f) := (blk_cell B0.out 1).trans rfl)
    | (go_at_call 31; refine (leadtrailref08_CopyShape.calls k A0 c0 l f l f _ (Kd.C_below HR.out HB.out) HC.out HCP.out).mono ?_; rintro e w2 ⟨v2, rfl, ho2, hb⟩; obtain ⟨A2, c2, e2, hc2, hC2⟩ := Kd.S_reads ho2; subst e2; have HO2 := Aside0.mk hC2; have HC2 := Aside0.mk hc2; have n0_ := Aside0.mk (blk_below B0.out hb); have n1_ := Aside0.mk (blk_below B1.out hb); have n2_ := Aside0.mk (blk_below B2.out hb); have n3_ := Aside0.mk (below_step HB.out hb); clear B0 B1 B2 HB hb ho2 hc2 hC2; have B0 := n0_; have B1 := n1_; have B2 := n2_; have HB := n3_; clear n0_ n1_ n2_ n3_)
    | (go_at_call 36; refine (shape_All.calls k A2 c2 l f fr l f _ HO2.out HC2.out HCP2.out).mono ?_; rintro e w3 ⟨gf, gp, A3, c3, rfl, hgf, hc3, hD3, hb⟩; have HGF := Aside0.mk hgf; have HD3 := Aside0.mk hD3; have HC3c := Aside0.mk hc3; have n0_ := Aside0.mk (blk_below B0.out hb); have n1_ := Aside0.mk (blk_below B1.out hb); have n2_ := Aside0.mk (blk_below B2.out hb); have n3_ := Aside0.mk (below_step HB.out hb); have HW2 := Aside0.mk (show w.heap.size + 1 + 1 < w2.heap.size from blk_lt B2.out); clear B0 B1 B2 HB hb hgf hD3 hc3; have B0 := n0_; have B1 := n1_; have B2 := n2_; have HB := n3_; clear n0_ n1_ n2_ n3_; have hq0 : w3.cell? ⟨w.heap.size, 0, none⟩ = some (.slice A0 l.length c0) := (blk_cell B0.out 0).trans rfl; have hq1 : w3.cell? ⟨w.heap.size, 1, none⟩ = some (.int .i64 f) := (blk_cell B0.out 1).trans rfl)
    | (go_at_call 37; refine (leadtrailref09_Count.calls k A0 c0 l f cnt _ (Kd.C_below HR.out HB.out) HC.out HCNT.out).mono ?_; rintro e w4 ⟨rfl, hb⟩; have H34 := Aside0.mk hb; have n0_ := Aside0.mk (blk_below B0.out hb); have n1_ := Aside0.mk (blk_below B1.out hb); have n2_ := Aside0.mk (blk_below B2.out hb); have n3_ := Aside0.mk (below_step HB.out hb); clear B0 B1 B2 HB hb; have B0 := n0_; have B1 := n1_; have B2 := n2_; have HB := n3_; clear n0_ n1_ n2_ n3_))
  have HW34 := Aside0.mk H34.out.size
  clear hq0 hq1
  refine wp_loop (fun a W => ∃ (j : Nat) (Ds : List Nat), a = { tmps := TMS A0 l c0 w.heap.size gf gp f fr early cnt j (fun i => a.tmps.getD i undef), defers := Ds.map fun D => { target := .collected D, args := #[] } } ∧ j ≤ 2 ∧ Below w4.heap.size w4 W ∧ Ds.Nodup ∧ ∀ D ∈ Ds, w4.heap.size ≤ D ∧ W.heap[D]? = some (.deferred (some [])))
    (fun a _ => turnsLeftS a)
    ⟨0, [], rfl, by omega, Below.refl _ _, .nil, by simp⟩ ?_
  rintro a w5 ⟨j, Ds, ha, hj, hb5, hnd, hD⟩
  generalize (fun i => a.tmps.getD i undef) = u at ha
  subst ha
  unfold TMS
  have q0 : w5.cell? ⟨w.heap.size, 0, none⟩ = some (.slice A0 l.length c0) := (blk_cell (blk_below B0.out hb5) 0).trans rfl
  have q0' : w5.cell? ⟨w.heap.size, 1, none⟩ = some (.int .i64 f) := (blk_cell (blk_below B0.out hb5) 1).trans rfl
  have q1 : w5.cell? ⟨w.heap.size + 1, 0, none⟩ = some (.int .i64 early) := (blk_cell (blk_below B1.out hb5) 0).trans rfl
  have q2 : w5.cell? ⟨w.heap.size + 1 + 1, 0, none⟩ = some (.bool false) := (blk_cell (blk_below B2.out hb5) 0).trans rfl
  have f2 : w5.frozen? ⟨w.heap.size + 1 + 1, 0, none⟩ = false := blk_frozen (blk_below B2.out hb5) 0
  have HB5 := Aside0.mk (below_step HB.out hb5)
  have HD := Aside0.mk hD
  have HND := Aside0.mk hnd
  have HLB := Aside0.mk (show w.heap.size + 1 + 1 < w4.heap.size from blk_lt B2.out)
  clear hD hnd
  by_cases hj2 : j = 2
  · subst hj2
    have hl : decide (((2 : Nat) : Int) < 2) = false := rfl
    go_wp2
    have hlt3 : w.heap.size + 1 + 1 < w4.heap.size := HLB.out
    have hs5 : w4.heap.size ≤ w5.heap.size := hb5.size
    refine leaves_marks (D0 := w4.heap.size) (X := fun W => W.cell? ⟨w.heap.size + 1 + 1, 0, none⟩ = some (.bool true) ∧ Below w.heap.size w W) ?_ ?_ Ds _ HND.out ?_ ⟨World.cell?_setCell_same' _ _ _ (by rw [q2]; rfl), HB5.out.setCell (by show _ ≤ w.heap.size + 1 + 1; omega) _⟩
    · rintro W D ⟨h1, h2⟩ hD0 hd
      exact ⟨cell_kept h1 (grownBy_putObj' W D _) (fun r e => by cases e; exact ⟨_, hd, rfl⟩), h2.grown (grownBy_putObj' W D _) h2.size (fun k e => by cases e; omega)⟩
    · rintro W ⟨h1, h2⟩
      exact ⟨.bool true, by simp [results, Try.f7, go_sem, h1], rfl, h2⟩
    · intro D hd
      exact ⟨(HD.out D hd).1, blk_set_far (HD.out D hd).2 (by have := (HD.out D hd).1; omega) _⟩
  · have hl : decide ((j : Int) < 2) = true := by simp; omega
    have HJ := Aside0.mk (show j < 2 by omega)
    clear hj hj2
    go_wp2
    have h56 : Below w5.heap.size w5 ((w5.alloc (.cells #[.int .i64 (max fr 0)] 3)).alloc (.cells #[.int .i64 0] 3)) := ((Below.refl _ w5).alloc (Nat.le_refl _) _).alloc (by simp) _
    have HSW6 := Aside0.mk (show ((w5.alloc (.cells #[.int .i64 (max fr 0)] 3)).alloc (.cells #[.int .i64 0] 3)).heap.size = w5.heap.size + 2 by simp)
    have HB35 := Aside0.mk hb5
    have HS5 := Aside0.mk hb5.size
    have HLW := Aside0.mk (show w.heap.size + 1 + 1 < w5.heap.size ∧ w5.heap.size < w5.heap.size + 1 from ⟨by have := HLB.out; have := hb5.size; omega, by omega⟩)
    have HE6 : Aside0 (EnvA ((w5.alloc (.cells #[.int .i64 (max fr 0)] 3)).alloc (.cells #[.int .i64 0] 3)) w.heap.size w5.heap.size (w5.heap.size + 1) A0 l.length c0 f early (max fr 0) 0) :=
      ⟨blk_below (blk_below B0.out hb5) h56, blk_below (blk_below B1.out hb5) h56, blk_below (blk_below B2.out hb5) h56, blk_alloc (blk_new w5 _) _, blk_new2 w5 _ _⟩
    have H36 := Aside0.mk (Below.trans (Below.trans H34.out (hb5.mono H34.out.size)) (Below.mono h56 (Nat.le_trans H34.out.size hb5.size)))
    have H56 := Aside0.mk h56
    clear h56 hb5 hl
    generalize hw6 : (w5.alloc (.cells #[.int .i64 (max fr 0)] 3)).alloc (.cells #[.int .i64 0] 3) = w6 at HE6 H56 H36 HSW6 ⊢
    clear hw6
    refine (wpIn_wide (n := 4)).1 ?_
    refine wpIn_rangeFunc_toldH (F := Fence.wide) rfl (by decide) (gf := 80) (lb := #[.pointer (some ⟨gf, 0, none⟩), .pointer (some ⟨gp, 0, none⟩)]) rfl trivial (enters_of Try.func80 (by kernel_rfl) rfl) (all_seq 3 (by decide) HF.out (D := fun k => w2.heap.size ≤ k ∧ k < w3.heap.size) (w0 := w3) (fun k hk => hk.2) HGF.out HC3c.out HD3.out) KpD.trans ?hKb H36.out (fun _ => rfl)
      (fun G pre W => EnvA W w.heap.size w5.heap.size (w5.heap.size + 1) A0 l.length c0 f early (max fr 0 + (pre.length : Int)) (pre.length : Int) ∧ Below w5.heap.size w5 W ∧ (pre = [] ∨ ((pre.length : Int) < early ∧ pre.length < 300)))
      (fun c G pre W => c = .exit 2 ∧ EnvA W w.heap.size w5.heap.size (w5.heap.size + 1) A0 l.length c0 f early (max fr 0 + (pre.length : Int)) (pre.length : Int) ∧ Below w5.heap.size w5 W ∧ (early ≤ (pre.length : Int) ∨ 300 ≤ pre.length) ∧ (pre.length = 1 ∨ ((pre.length : Int) - 1 < early ∧ pre.length - 1 < 300)))
      ?hI ?hIx ?hIp ?hIxp ⟨by simpa using HE6.out, H56.out, .inl rfl⟩
      (fun G pre x a' W => a' = { tmps := #[.agg #[.slice A0 l.length c0, .int .i64 f], .int .i64 fr, .int .i64 early, .pointer (some ⟨w.heap.size, 0, none⟩), u 4, .pointer (some ⟨w.heap.size + 1, 0, none⟩), .pointer (some ⟨w.heap.size + 1 + 1, 0, none⟩), .func (.func 80) #[] #[.pointer (some ⟨gf, 0, none⟩), .pointer (some ⟨gp, 0, none⟩)], .int .i64 cnt, .int .i64 (j : Int), .pointer (some ⟨w5.heap.size, 0, none⟩), .pointer (some ⟨w5.heap.size + 1, 0, none⟩), .int .i64 x.k, .slice x.A x.b.length x.c, u 14, u 15, u 16, u 17, u 18, u 19, u 20, u 21, u 22, u 23, .int .i64 (j : Int), .bool true, u 26, u 27, .int .i64 fr, .int .i64 (max fr 0), .func (.func 80) #[] #[.pointer (some ⟨gf, 0, none⟩), .pointer (some ⟨gp, 0, none⟩)], .int .i64 x.k, .slice x.A x.b.length x.c, u 33, u 34, u 35, u 36, u 37, u 38, u 39, u 40, u 41, u 42, u 43, u 44, u 45, u 46, u 47, u 48, u 49, u 50, u 51, u 52, u 53, u 54, u 55, u 56, u 57, u 58, u 59, u 60, u 61, u 62, u 63, u 64, u 65, u 66, u 67, u 68, u 69, u 70, u 71, u 72, u 73], defers := [] } ∧ (pre.length < N ∧ x.k = max fr 0 + pre.length ∧ x.b = sq pre.length ∧ Kd.C (Kd.int .u8) W x.A x.b.length x.b))
      ?hAx ?hassign ?hbody ?hdone ?hstop
    case hKb =>
      intro W l_ o o' hl_ ho hc_ hw_
      have := H36.out.size
      exact KpD.grown (KpD.refl _ W) (grownBy_putObj' W l_ o') (fun k hk => ⟨by have := (Array.getElem?_eq_some_iff.1 ho).1; omega, fun e => by cases e; omega⟩)
    case hI =>
      rintro B hB G G' pre W W' ⟨h1, h2, h3⟩ hG hg hG'
      have hs6 := HSW6.out
      have hlw := HLW.out
      exact ⟨h1.moved (fun k o hk hle => hg.block k (Array.getElem?_eq_some_iff.1 hk).1 (fun hgk => by have := hG k hgk; omega)), GrownG.below h2 hg (fun k hgk => by have := hG k hgk; omega) h2.size, h3⟩
    case hIx =>
      rintro c B hB G G' pre W W' ⟨h0, h1, h2, h3⟩ hG hg hG'
      have hs6 := HSW6.out
      have hlw := HLW.out
      exact ⟨h0, h1.moved (fun k o hk hle => hg.block k (Array.getElem?_eq_some_iff.1 hk).1 (fun hgk => by have := hG k hgk; omega)), GrownG.below h2 hg (fun k hgk => by have := hG k hgk; omega) h2.size, h3⟩
    case hIp =>
      rintro G pre W l_ o o' hG ⟨h1, h2, h3⟩ hl_ ho hc_
      have hl_ : w6.heap.size ≤ l_ := by omega
      exact ⟨h1.moved (fun k o2 hk hle => World.putObj_heap_other (fun e => by subst e; have := HSW6.out; have := HLW.out; omega)), h2.grown (grownBy_putObj' W l_ o') h2.size (fun k e => by cases e; have := HSW6.out; omega), h3⟩
    case hIxp =>
      rintro c G pre W l_ o o' hG ⟨h0, h1, h2, h3⟩ hl_ ho hc_
      have hl_ : w6.heap.size ≤ l_ := by omega
      exact ⟨h0, h1.moved (fun k o2 hk hle => World.putObj_heap_other (fun e => by subst e; have := HSW6.out; have := HLW.out; omega)), h2.grown (grownBy_putObj' W l_ o') h2.size (fun k e => by cases e; have := HSW6.out; omega), h3⟩
    case hAx =>
      rintro G pre x a' hG s W W' row ⟨h1, h2, h3, h4, h5⟩ hg hr
      exact ⟨h1, h2, h3, h4, CN_kept h5 hg (fun r e => (hr r e).2)⟩
    case hassign =>
      rintro l_ G0 G pre x Wp W K hG hI0 hg0 hI hRd hK
      unfold encA
      simp only [List.size_toArray, Array.zip, List.zip_toArray]
      gi_wp2
      exact hK _ _ (KeepsFrom.refl _ _) (KpD.refl _ _) (fun _ _ => rfl) hI ⟨rfl, hRd.1, hRd.2.1, hRd.2.2.1, (Kd.R_reads' hRd.2.2.2).2.2⟩
    case hbody =>
      rintro l_ G pre x_ a' W hG ⟨HE, HBW5, HP⟩ ⟨rfl, hpl, hxk, hxb, hx1⟩
      obtain ⟨xk, xA, xc, xb⟩ := x_
      simp only at hxk hxb hx1 ⊢
      obtain ⟨x_, hx_⟩ : ∃ x_, x_ = (⟨xk, xA, xc, xb⟩ : AX) := ⟨_, rfl⟩
      rw [← hx_]
      have HX_ := Aside0.mk hx_
      obtain ⟨nI, hn⟩ : ∃ nI : Int, nI = (pre.length : Int) := ⟨_, rfl⟩
      rw [← hn] at HE hxk
      obtain ⟨kI, hkI⟩ : ∃ kI : Int, kI = max fr 0 + nI := ⟨_, rfl⟩
      rw [← hkI] at HE hxk
      subst hxk
      obtain ⟨kx, hkb⟩ := HUN.out pre.length hpl
      rw [← hn, ← hkI, ← hxb] at hkb
      have HKB := Aside0.mk hkb
      have HNI := Aside0.mk hn
      have HKI := Aside0.mk hkI
      have HPP := Aside0.mk HP
      have HPL := Aside0.mk hpl
      have HPN := Aside0.mk (show 1 ≤ N by omega)
      have HG := Aside0.mk hG
      have E := Aside0.mk HE
      have BW := Aside0.mk HBW5
      have KF := Aside0.mk (Below.refl W.heap.size W)
      have HBA := Aside0.mk (below_step HB5.out HBW5)
      have HSW := Aside0.mk HBW5.size
      have XC := Aside0.mk hx1
      obtain ⟨e0, e1, e2, e3, e4, e5, g3, g4, g5⟩ := HE.cells
      have d1 : (xk != xk) = false := by simp
      clear hG HE HBW5 HP hpl hxb hx1 hn hkb hx_ hkI q0 q0' q1 q2 f2
      gi_wp2_with (first | (refine ⟨trivial, ?_⟩; gi_at_call 38; with_reducible refine (CallsIn.inRound l_ (callsIn_wide.2 (leadtrailref09_Unrank.calls kx A0 c0 l f xk xb true _ (Kd.C_below HR.out HBA.out) HC.out HKB.out))).mono ?_; rintro e W2 ⟨v2, rfl, ho2, hb2⟩; obtain ⟨A5, c5, e5_, hc5, hC5⟩ := Kd.R_reads ho2; subst e5_; have HC5 := Aside0.mk hC5; clear ho2 hc5 hC5; have n0_ := Aside0.mk (E.out.below hb2); have n1_ := Aside0.mk (below_step BW.out hb2); have n2_ := Aside0.mk (below_step KF.out hb2); have n3_ := Aside0.mk (below_step HBA.out hb2); have n4_ := Aside0.mk (Kd.C_below XC.out hb2); clear E BW KF HBA XC hb2 e0 e1 e2 e3 e4 e5 g3 g4 g5; have E := n0_; have BW := n1_; have KF := n2_; have HBA := n3_; have XC := n4_; clear n0_ n1_ n2_ n3_ n4_; obtain ⟨e0, e1, e2, e3, e4, e5, g3, g4, g5⟩ := E.out.cells; have cv1 := Kd.C_string (P := Try.prog) (A := xA) (c := xc) Try.underlying59 Try.underlying5 Try.underlying9 XC.out; have cv2 := Kd.C_string (P := Try.prog) (A := A5) (c := c5) Try.underlying59 Try.underlying5 Try.underlying9 HC5.out))
      refine startIn_ (n := 6) (S := fun w' => w'.cell? ⟨w5.heap.size + 1, 0, none⟩ = some (.int .i64 nI)) (ds := [5]) #[false, false, false, false, false, false] (by kernel_rfl) rfl rfl (by kernel_rfl) (fun ⟨_, _, h⟩ => h) e5 (fun hHeld => ?_)
      refine take_ (i := 2) (N := some 55) (v := ?_) (a' := ?_) #[false, false, true, false, false, false] rfl rfl (by kernel_rfl) (fun _ _ _ h => h) (Or.inl ⟨by rfl, ?_⟩) hHeld ?_ ?_
      rotate_left
      · rintro w' s0
        go_simp
        with_reducible rfl
      rotate_left
      · simp only [Act.put, List.setIfInBounds_toArray, List.set_cons_zero, List.set_cons_succ, i64_w, i32_w]
        rfl
      refine pure_ (i := 3) (N := some 56) (v := ?_) (a' := ?_) #[false, false, true, true, false, false] rfl rfl (by kernel_rfl) (fun _ _ _ h => h) (Or.inl ⟨by rfl, ?_⟩) ?_ ?_
      rotate_left
      · intro w'
        go_simp
        with_reducible rfl
      rotate_left
      · simp only [Act.put, List.setIfInBounds_toArray, List.set_cons_zero, List.set_cons_succ, i64_w, i32_w]
        rfl
      refine one_ (i := 0) (N := some 53) #[true, false, true, true, false, false] rfl rfl (by kernel_rfl) (by decide) (fun K hK => ?_)
      go_simp
      refine hK.out _ _ e5 (fun hHeld => ?_)
      clear hK K
      refine pure_ (i := 1) (N := some 54) (v := ?_) (a' := ?_) #[true, true, true, true, false, false] rfl rfl (by kernel_rfl) (fun _ _ _ h => h) (Or.inl ⟨by rfl, ?_⟩) ?_ ?_
      rotate_left
      · intro w'
        go_simp
        with_reducible rfl
      rotate_left
      · simp only [Act.put, List.setIfInBounds_toArray, List.set_cons_zero, List.set_cons_succ, i64_w, i32_w]
        rfl
      refine one_ (i := 4) (N := none) #[true, true, true, true, true, false] rfl rfl (by kernel_rfl) (by decide) (fun K hK => ?_)
      refine skip_ (w1 := ?_) (by rfl) rfl ?_ ?_
      rotate_left
      · go_simp
        rfl
      refine hK.out _ _ (by exact (blk_cell (blk_set_far E.out.2.2.2.2 (by have := HLW.out; omega) _) 0).trans rfl) (fun hHeld => ?_)
      clear hK K
      refine last_ (i := 5) (N := none) #[true, true, true, true, true, true] rfl rfl (by kernel_rfl) (by decide) (fun K hK => ?_)
      refine skip_ (w1 := ?_) (by rfl) rfl ?_ ?_
      rotate_left
      · go_simp
        rfl
      refine hK.out _ _ ?_
      clear hK K
      refine done_ (by kernel_rfl) ?_
      clear hHeld cv1 cv2
      have hw_ : wrap64 (nI + 1) = nI + 1 := w64o (by have := HNI.out; omega) (by have := HNI.out; have := HPP.out; rcases this with h | h <;> first | (subst h; simp at *; omega) | omega)
      have hwk : wrap64 (xk + 1) = xk + 1 := w64o (by have := HKI.out; have := HNI.out; omega) (by have := HKI.out; have := HNI.out; have := HPL.out; have := HBN.out HPN.out; omega)
      rw [hwk, hw_]
      have ST := Aside0.mk ((E.out.step HLW.out (xk + 1) (nI + 1)).drewn)
      have BW9 := Aside0.mk (below_drew1 ((BW.out.setCell (p := ⟨w5.heap.size, 0, none⟩) (Nat.le_refl _) (.int .i64 (xk + 1))).setCell (p := ⟨w5.heap.size + 1, 0, none⟩) (by show w5.heap.size ≤ w5.heap.size + 1; omega) (.int .i64 (nI + 1))))
      have hs9 : ∀ k, k ≠ w5.heap.size → k ≠ w5.heap.size + 1 → ((W2.setCell ⟨w5.heap.size, 0, none⟩ (.int .i64 (xk + 1))).setCell ⟨w5.heap.size + 1, 0, none⟩ (.int .i64 (nI + 1))).drew.heap[k]? = W2.heap[k]? := fun k h1 h2 => (Below.heap_setCell _ ⟨w5.heap.size + 1, 0, none⟩ _ k h2).trans (Below.heap_setCell _ ⟨w5.heap.size, 0, none⟩ _ k h1)
      have hz9 : W2.heap.size ≤ ((W2.setCell ⟨w5.heap.size, 0, none⟩ (.int .i64 (xk + 1))).setCell ⟨w5.heap.size + 1, 0, none⟩ (.int .i64 (nI + 1))).drew.heap.size := Nat.le_trans (KeepsOthers.setCell _ _ _).size (KeepsOthers.setCell _ _ _).size
      have KW : Aside0 (KpD (fun k => w2.heap.size ≤ k ∧ k < w3.heap.size) W ((W2.setCell ⟨w5.heap.size, 0, none⟩ (.int .i64 (xk + 1))).setCell ⟨w5.heap.size + 1, 0, none⟩ (.int .i64 (nI + 1))).drew) := ⟨Nat.le_trans KF.out.size hz9, fun k hk => (hs9 k (by have := HW34.out; have := HS5.out; omega) (by have := HW34.out; have := HS5.out; omega)).trans (KF.out.block k (by have := HW34.out; have := HS5.out; have := HSW.out; omega))⟩
      have KG : Aside0 (∀ k, G k → ((W2.setCell ⟨w5.heap.size, 0, none⟩ (.int .i64 (xk + 1))).setCell ⟨w5.heap.size + 1, 0, none⟩ (.int .i64 (nI + 1))).drew.heap[k]? = W.heap[k]?) := ⟨fun k hk => (hs9 k (by have := (HG.out k hk).1; have := HSW6.out; omega) (by have := (HG.out k hk).1; have := HSW6.out; omega)).trans (KF.out.block k (HG.out k hk).2)⟩
      have KFR : Aside0 (KeepsFrom w6.heap.size W ((W2.setCell ⟨w5.heap.size, 0, none⟩ (.int .i64 (xk + 1))).setCell ⟨w5.heap.size + 1, 0, none⟩ (.int .i64 (nI + 1))).drew) := ⟨((KeepsFrom.of_b (B := w6.heap.size) KF.out).trans ((KeepsOthers.setCell W2 ⟨w5.heap.size, 0, none⟩ (.int .i64 (xk + 1))).from _)).trans ⟨((KeepsOthers.setCell _ ⟨w5.heap.size + 1, 0, none⟩ (.int .i64 (nI + 1))).from w6.heap.size).size, ((KeepsOthers.setCell _ ⟨w5.heap.size + 1, 0, none⟩ (.int .i64 (nI + 1))).from w6.heap.size).same⟩⟩
      clear hs9 hz9 hw_ hwk E KF BW e0 e1 e2 e3 e4 e5 g3 g4 g5
      generalize ((W2.setCell ⟨w5.heap.size, 0, none⟩ (.int .i64 (xk + 1))).setCell ⟨w5.heap.size + 1, 0, none⟩ (.int .i64 (nI + 1))).drew = W9 at ST BW9 KW KG KFR ⊢
      obtain ⟨e0, e1, e2, e3, e4, e5, g3, g4, g5⟩ := ST.out.cells
      have hL : (((pre ++ [x_]).length : Nat) : Int) = nI + 1 := by have := HNI.out; simp; omega
      have HL_ := Aside0.mk hL
      clear hL
      have HST : Aside0 (EnvA W9 w.heap.size w5.heap.size (w5.heap.size + 1) A0 l.length c0 f early (max fr 0 + (((pre ++ [x_]).length : Nat) : Int)) (((pre ++ [x_]).length : Nat) : Int)) := by have h := ST.out; rw [show xk + 1 = max fr 0 + (nI + 1) by have := HKI.out; omega, ← HL_.out] at h; exact ⟨h⟩
      rcases (show (early ≤ nI + 1) ∨ (¬ early ≤ nI + 1 ∧ 300 ≤ nI + 1) ∨ (¬ early ≤ nI + 1 ∧ ¬ 300 ≤ nI + 1) by omega) with c6 | ⟨c6, c7⟩ | ⟨c6, c7⟩
      · have d6 : decide (early ≤ nI + 1) = true := by simp; omega
        have C6 := Aside0.mk c6
        clear c6
        gi_wp2
        exact ⟨KFR.out, rfl, HST.out, BW9.out, by rw [HL_.out]; first | exact .inl C6.out | (right; have := HL_.out; have := C7.out; omega), by rcases HPP.out with h | h; (left; rw [h]; rfl); right; have := HL_.out; have := HNI.out; simp at *; omega⟩
      · have d6 : decide (early ≤ nI + 1) = false := by simp; omega
        have C6 := Aside0.mk c6
        clear c6
        have d7 : decide (300 ≤ nI + 1) = true := by simp; omega
        have C7 := Aside0.mk c7
        clear c7
        gi_wp2
        exact ⟨KFR.out, rfl, HST.out, BW9.out, by rw [HL_.out]; first | exact .inl C6.out | (right; have := HL_.out; have := C7.out; omega), by rcases HPP.out with h | h; (left; rw [h]; rfl); right; have := HL_.out; have := HNI.out; simp at *; omega⟩
      · have d6 : decide (early ≤ nI + 1) = false := by simp; omega
        have C6 := Aside0.mk c6
        clear c6
        have d7 : decide (300 ≤ nI + 1) = false := by simp; omega
        have C7 := Aside0.mk c7
        clear c7
        gi_wp2
        exact ⟨KFR.out, ⟨KW.out, KG.out⟩, HST.out, BW9.out, .inr ⟨by rw [HL_.out]; have := C6.out; omega, by have := HL_.out; have := C7.out; omega⟩⟩
    case hdone =>
      rintro D G ys W hD hys ⟨hE, hBW, hP⟩ hK
      obtain ⟨nI, hn⟩ : ∃ nI : Int, nI = (ys.length : Int) := ⟨_, rfl⟩
      rw [← hn] at hE
      have HDD := Aside0.mk hD
      have HK := Aside0.mk hK
      have BW := Aside0.mk hBW
      have E := Aside0.mk hE
      obtain ⟨e0, e1, e2, e3, e4, e5, g3, g4, g5⟩ := hE.cells
      have hne : nI = min (max (cnt - max fr 0) 0) (min (max early 1) 300) := by
        rw [← HN.out, ← hys]
        rcases hP with h | ⟨h, h'⟩
        · rw [hn, h]
          simp
          omega
        · omega
      have hws : wrap64 (cnt - max fr 0) = cnt - max fr 0 := w64o (by have := HFR.out; have := HC3.out; omega) (by have := HC3.out; omega)
      have hw_ : wrap64 ((j : Int) + 1) = (j : Int) + 1 := by have := HJ.out; exact w64o (by omega) (by omega)
      have d1 : (nI != min (max (cnt - max fr 0) 0) (min (max early 1) 300)) = false := by simp only [bne_eq_false_iff_eq]; exact hne
      have d2 : decide (nI = min (max (cnt - max fr 0) 0) (min (max early 1) 300)) = true := decide_eq_true hne
      have d3 : (nI == min (max (cnt - max fr 0) 0) (min (max early 1) 300)) = true := beq_iff_eq.2 hne
      clear hne hn
      clear hD hK hys hP hBW hE q0 q0' q1 q2 f2
      go_wp2
      rw [hw_]
      refine ⟨⟨j + 1, D :: Ds, rfl, by have := HJ.out; omega, below_step HB35.out BW.out, ?_, ?_⟩, ?_⟩
      · refine List.nodup_cons.2 ⟨fun h => ?_, HND.out⟩
        have h1 := (Array.getElem?_eq_some_iff.1 (HD.out D h).2).1
        have h2 := HDD.out
        have := HSW6.out
        omega
      · intro D' h
        rcases List.mem_cons.1 h with rfl | h
        · refine ⟨?_, HK.out⟩
          have h2 := HDD.out
          have := HS5.out
          have := HSW6.out
          omega
        · exact ⟨(HD.out D' h).1, blk_below (HD.out D' h).2 BW.out⟩
      · have := HJ.out
        show (2 - ((j : Int) + 1)).toNat < (2 - (j : Int)).toNat
        omega
    case hstop =>
      rintro D c G pre W hD hSp ⟨rfl, hE, hBW, hp1, hp2⟩ hK
      obtain ⟨nI, hn⟩ : ∃ nI : Int, nI = (pre.length : Int) := ⟨_, rfl⟩
      rw [← hn] at hE
      have HDD := Aside0.mk hD
      have HK := Aside0.mk hK
      have BW := Aside0.mk hBW
      have E := Aside0.mk hE
      obtain ⟨e0, e1, e2, e3, e4, e5, g3, g4, g5⟩ := hE.cells
      have hne : nI = min (max (cnt - max fr 0) 0) (min (max early 1) 300) := by
        rw [← HN.out]
        have := hSp.2
        omega
      have hws : wrap64 (cnt - max fr 0) = cnt - max fr 0 := w64o (by have := HFR.out; have := HC3.out; omega) (by have := HC3.out; omega)
      have hw_ : wrap64 ((j : Int) + 1) = (j : Int) + 1 := by have := HJ.out; exact w64o (by omega) (by omega)
      have d1 : (nI != min (max (cnt - max fr 0) 0) (min (max early 1) 300)) = false := by simp only [bne_eq_false_iff_eq]; exact hne
      have d2 : decide (nI = min (max (cnt - max fr 0) 0) (min (max early 1) 300)) = true := decide_eq_true hne
      have d3 : (nI == min (max (cnt - max fr 0) 0) (min (max early 1) 300)) = true := beq_iff_eq.2 hne
      clear hne hn
      clear hD hK hSp hp1 hp2 hBW hE q0 q0' q1 q2 f2
      refine wpIn_wide.2 ?_
      go_wp2
      rw [hw_]
      refine ⟨⟨j + 1, D :: Ds, rfl, by have := HJ.out; omega, below_step HB35.out BW.out, ?_, ?_⟩, ?_⟩
      · refine List.nodup_cons.2 ⟨fun h => ?_, HND.out⟩
        have h1 := (Array.getElem?_eq_some_iff.1 (HD.out D h).2).1
        have h2 := HDD.out
        have := HSW6.out
        omega
      · intro D' h
        rcases List.mem_cons.1 h with rfl | h
        · refine ⟨?_, HK.out⟩
          have h2 := HDD.out
          have := HS5.out
          have := HSW6.out
          omega
        · exact ⟨(HD.out D' h).1, blk_below (HD.out D' h).2 BW.out⟩
      · have := HJ.out
        show (2 - ((j : Int) + 1)).toNat < (2 - (j : Int)).toNat
        omega
def leadtraillaw09_ShapeAll.Good (k : Nat) (l : List (List S34)) (f fr early : Int) : Prop :=
  ∃ (kc : Nat) (r1 : List Int) (ok : Bool) (N : Nat) (sq : Nat → List Int) (L : Nat → List S133) (cnt : Int),
    leadtraillaw09_fixed.f k = some true ∧ leadtrailref08_CopyShape.f k l f = some (l, f) ∧ scheme_Copy.f k [⟨l, f⟩] = some [⟨l, f⟩] ∧ AllF kc l f fr r1 ok N sq L ∧ leadtrailref09_Count.f k l f = some cnt ∧ (N : Int) = max (cnt - max fr 0) 0 ∧ max fr 0 ≤ 9223372036854775807 ∧ (0 ≤ cnt ∧ cnt ≤ 1073741824) ∧ (1 ≤ N → max fr 0 + N ≤ 4611686018427387904) ∧
    ∀ i, i < N → ∃ k, leadtrailref09_Unrank.f k l f (max fr 0 + (i : Int)) = some (sq i, true)
open Classical in
noncomputable def leadtraillaw09_ShapeAll.f (k : Nat) (l : List (List S34)) (f fr early : Int) : Option Bool := if leadtraillaw09_ShapeAll.Good k l f fr early then some true else none
theorem leadtraillaw09_ShapeAll.calls (k : Nat) (A0 : Option Addr) (c0 : Nat) (l : List (List S34)) (f fr early : Int) (r : Bool) (w : World) (hr0 : Kd.C (Kd.slice 34 k34) w A0 l.length l) (hc0 : l.length ≤ c0) (hf : leadtraillaw09_ShapeAll.f k l f fr early = some r) :
    Calls Try.prog 7 #[.agg #[.slice A0 l.length c0, .int .i64 f], .int .i64 fr, .int .i64 early] w fun e w' => e = .returned (.bool r) ∧ Below w.heap.size w w' := by
  unfold leadtraillaw09_ShapeAll.f at hf
  split at hf
  · next h =>
    cases hf
    obtain ⟨kc, r1, ok, N, sq, L, cnt, h1, h2, h3, h4, h5, h6, h7, h8, h9, h10⟩ := h
    exact lawSAll.walk k kc A0 c0 l f fr early r1 ok N sq L cnt w hr0 hc0 h1 h2 h3 h4 h5 h6 h7 h8 h9 h10
  · cases hf
end Go.Proofs.Ytoljcfocgaonpaa.I
end
section
namespace Go.Proofs.Ytoljcfocgaonpaa.PB3
open Go.RowKit Go.Proofs.YtoljcfocgaonpaaW.PrintWords Go.Proofs.YtoljcfocgaonpaaW.PrintLast Go.Proofs.YtoljcfocgaonpaaW.PrintMore Go.Proofs.Ytoljcfocgaonpaa.I Go.Proofs.LT
set_option linter.unusedVariables false
set_option linter.unusedSimpArgs false
theorem evSucc {α : Type} {g : Nat → Option α} {r : α} (h : Ev (fun k => g (k + 1)) r) : Ev g r := Ev.step (fun _ => rfl) h
theorem evNow {α : Type} (r : α) : Ev (fun _ => some r) r := Ev.now r
theorem w64 {x : Int} (h0 : -9223372036854775808 ≤ x) (h1 : x ≤ 9223372036854775807) : wrap64 x = x := by unfold wrap64; omega
def L133 (x : S133) : Run := (x.f0, x.f1)
def L34 (x : S34) : Run := (x.f0, x.f1)
theorem L34_inj : ∀ {a b : List S34}, a.map L34 = b.map L34 → a = b
 | [], [], _ => rfl
 | [], _ :: _, h => by simp at h
 | _ :: _, [], h => by simp at h
 | ⟨_, _⟩ :: t, ⟨_, _⟩ :: t', h => by
  simp only [List.map_cons, List.cons.injEq, L34, Prod.mk.injEq] at h; obtain ⟨⟨rfl, rfl⟩, h⟩ := h; rw [L34_inj h]
theorem rd133 (pre : List S133) (r : S133) (t : List S133) : rd_T133 (pre ++ r :: t) (pre.length : Int) = r := by simp [rd_T133]
theorem rd34 (pre : List S34) (r : S34) (t : List S34) : rd_T34 (pre ++ r :: t) (pre.length : Int) = r := by simp [rd_T34]
theorem snoc_len {α : Type} (pre : List α) (r : α) : (((pre ++ [r]).length : Nat) : Int) = (pre.length : Int) + 1 := by simp
theorem app_snoc {α : Type} (pre : List α) (r : α) (t : List α) : (pre ++ [r]) ++ t = pre ++ r :: t := by simp
theorem len_cons {α : Type} (pre : List α) (r : α) (t : List α) : (((pre ++ r :: t).length : Nat) : Int) = pre.length + 1 + t.length := by simp; omega
def api_Span_106_c (x : S34) : S133 := ⟨x.f0, x.f1⟩
theorem api_Span_106_loop (N : Nat) (hN : N ≤ 8796093022206) : ∀ (t pre : List S34) (out : List S133), (pre ++ t).length ≤ N → out.length = pre.length → Ev (fun k => api_Span_106.l0 k out (pre ++ t) (((pre ++ t).length : Nat) : Int) (pre.length : Int)) (out ++ t.map api_Span_106_c)
 | [], pre, out, _, _ => by
  refine evSucc ?_; simp only [api_Span_106.l0]; rw [List.append_nil]; simp only [if_neg (show ¬ ((pre.length : Nat) : Int) < ((pre.length : Nat) : Int) by omega)]; simpa using evNow out
 | r :: t, pre, out, hl, ho => by
  have hlc := len_cons pre r t; have hlt : out.length < 8796093022208 := by simp at hl; omega
  have ih := api_Span_106_loop N hN t (pre ++ [r]) (out ++ [api_Span_106_c r]) (by rw [app_snoc]; exact hl) (by simp [ho]); rw [app_snoc, snoc_len] at ih; refine evSucc ?_; have hw : Aside0 (wrap64 ((pre.length : Int) + 1) = (pre.length : Int) + 1) := Aside0.mk (w64 (by omega) (by simp at hl; omega)); have c1 : (pre.length : Int) < ((pre ++ r :: t).length : Nat) := by rw [hlc]; omega
  have c2 : (0 : Int) ≤ pre.length := by omega
  simp only [api_Span_106.l0, if_pos c1, if_pos c2, if_pos hlt, rd34, hw.out]; simpa [api_Span_106_c] using ih
theorem api_Span_106_is (l : List S34) (hl : l.length * 16 ≤ 140737488351232) : Ev (fun k => api_Span_106.f k l) (l.map api_Span_106_c) := by
 have h := api_Span_106_loop l.length (by omega) l [] [] (by simp) rfl; have c1 : (0 : Int) ≤ (l.length : Int) := by omega
 have c2 : ((l.length : Int) : Int).toNat ≤ 17592186044416 := by omega
 simp only [api_Span_106.f, if_pos c1, if_pos c2]; simpa using h
theorem api_Span_106_len (l : List S34) : (l.map api_Span_106_c).map L133 = l.map L34 := by rw [List.map_map]; rfl
theorem valid_loop (N : Nat) (hN : N ≤ 8796093022206) (top : Int) (ht : top ≤ 1073741823) : ∀ (t pre : List S133) (last : Int), (pre ++ t).length ≤ N → Ev (fun k => sets_Valid.l0 k top last (pre ++ t) (((pre ++ t).length : Nat) : Int) (pre.length : Int)) (validB top last (t.map L133))
 | [], pre, last, _ => by
  refine evSucc ?_; simp only [sets_Valid.l0]; rw [List.append_nil]; simp only [if_neg (show ¬ ((pre.length : Nat) : Int) < ((pre.length : Nat) : Int) by omega)]; rw [show validB top last (([] : List S133).map L133) = true from validB_nil _ _]; exact evNow _
 | r :: t, pre, last, hl => by
  have hlc := len_cons pre r t; have ih := valid_loop N hN top ht t (pre ++ [r]) r.f1 (by rw [app_snoc]; exact hl); rw [app_snoc, snoc_len] at ih; refine evSucc ?_; have hw : Aside0 (wrap64 ((pre.length : Int) + 1) = (pre.length : Int) + 1) := Aside0.mk (w64 (by omega) (by simp at hl; omega)); have c1 : (pre.length : Int) < ((pre ++ r :: t).length : Nat) := by rw [hlc]; omega
  have c2 : (0 : Int) ≤ pre.length := by omega
  simp only [sets_Valid.l0, if_pos c1, if_pos c2, rd133, hw.out, List.map_cons, validB_cons, L133]; by_cases d1 : r.f0 < 0
  ·simp only [if_pos d1]; exact evNow _
  by_cases d2 : r.f0 > r.f1
  ·simp only [if_neg d1, if_pos d2]; exact evNow _
  by_cases d3 : r.f1 > top
  ·simp only [if_neg d1, if_neg d2, if_pos d3]; exact evNow _
  have hw2 : Aside0 (wrap64 (r.f0 - 1) = r.f0 - 1) := Aside0.mk (w64 (by omega) (by omega)); simp only [if_neg d1, if_neg d2, if_neg d3, hw2.out]; by_cases d4 : r.f0 - 1 ≤ last
  ·simp only [if_pos d4]; exact evNow _
  ·simp only [if_neg d4]; exact ih
theorem valid_is (top : Int) (ht : top ≤ 1073741823) (l : List S133) (hl : l.length ≤ 8796093022206) : Ev (fun k => sets_Valid.f k l top) (validB top (-2) (l.map L133)) := by
 have h := valid_loop l.length hl top ht l [] (-2) (by simp); simpa [sets_Valid.f] using h
theorem size_loop (N : Nat) (hN : N ≤ 8796093022206) (top : Int) (ht : top ≤ 1073741823) : ∀ (t pre : List S133) (last acc : Int), (pre ++ t).length ≤ N → ValidFrom top last (t.map L133) → 0 ≤ acc → acc + size (t.map L133) ≤ 4294967296 →
 Ev (fun k => sets_Size.l0 k acc (pre ++ t) (((pre ++ t).length : Nat) : Int) (pre.length : Int)) (acc + size (t.map L133))
 | [], pre, last, acc, _, _, _, _ => by
  refine evSucc ?_; simp only [sets_Size.l0]; rw [List.append_nil]; simp only [if_neg (show ¬ ((pre.length : Nat) : Int) < ((pre.length : Nat) : Int) by omega)]; simpa [size_nil] using evNow acc
 | r :: t, pre, last, acc, hl, hv, h0, h1 => by
  have hlc := len_cons pre r t; have hs := size_nonneg hv.2.2.2.2; have e1 : size ((r :: t).map L133) = (r.f1 - r.f0 + 1) + size (t.map L133) := size_cons _ _; have v0 : 0 ≤ r.f0 := hv.1; have v1 : r.f0 ≤ r.f1 := hv.2.1; have v2 : r.f1 ≤ top := hv.2.2.1; have ih := size_loop N hN top ht t (pre ++ [r]) r.f1 (acc + (r.f1 - r.f0 + 1)) (by rw [app_snoc]; exact hl) hv.2.2.2.2 (by omega) (by omega); rw [app_snoc, snoc_len] at ih; refine evSucc ?_; have hw : Aside0 (wrap64 ((pre.length : Int) + 1) = (pre.length : Int) + 1) := Aside0.mk (w64 (by omega) (by simp at hl; omega)); have c1 : (pre.length : Int) < ((pre ++ r :: t).length : Nat) := by rw [hlc]; omega
  have c2 : (0 : Int) ≤ pre.length := by omega
  have w1 : Aside0 (wrap64 (r.f1 - r.f0) = r.f1 - r.f0) := Aside0.mk (w64 (by omega) (by omega)); have w2 : Aside0 (wrap64 (r.f1 - r.f0 + 1) = r.f1 - r.f0 + 1) := Aside0.mk (w64 (by omega) (by omega)); have w3 : Aside0 (wrap64 (acc + (r.f1 - r.f0 + 1)) = acc + (r.f1 - r.f0 + 1)) := Aside0.mk (w64 (by omega) (by omega)); simp only [sets_Size.l0, if_pos c1, if_pos c2, rd133, hw.out, w1.out, w2.out, w3.out]; have e2 : acc + size ((r :: t).map L133) = acc + (r.f1 - r.f0 + 1) + size (t.map L133) := by omega
  rw [e2]; exact ih
theorem size_is (top : Int) (ht : top ≤ 1073741823) (l : List S133) (hl : l.length ≤ 8796093022206) (hv : ValidFrom top (-2) (l.map L133)) : Ev (fun k => sets_Size.f k l) (size (l.map L133)) := by
 have h0 : (0:Int) ≤ top ∨ l = [] := by
  cases l with
  | nil => exact .inr rfl
  | cons r t => have := hv.1; have := hv.2.1; have := hv.2.2.1; exact .inl (by omega)
 have hs : size (l.map L133) ≤ 4294967296 := by
  rcases h0 with h0 | rfl
  ·have := size_le hv h0; omega
  ·simp [size_nil]
 have h := size_loop l.length hl top ht l [] (-2) 0 (by simp) hv (by omega) (by omega); simpa [sets_Size.f] using h
def rankL (l : List Run) (x : Int) : Int × Bool := if memB l x = true then ((cd (memB l) x.toNat : Int), true) else (0, false)
theorem rank_loop (N : Nat) (hN : N ≤ 8796093022206) (top : Int) (ht : top ≤ 1073741823) (x : Int) (hx : (Lit.int .i64 x).wf = true) : ∀ (t pre : List S133) (last acc : Int), (pre ++ t).length ≤ N → ValidFrom top last (t.map L133) → 0 ≤ acc → acc + size (t.map L133) ≤ 4294967296 →
 Ev (fun k => sets_Rank.l0 k x acc (pre ++ t) (((pre ++ t).length : Nat) : Int) (pre.length : Int)) (if memB (t.map L133) x = true then (acc + (cd (memB (t.map L133)) x.toNat : Int), true) else (0, false))
 | [], pre, last, acc, _, _, _, _ => by
  refine evSucc ?_; simp only [sets_Rank.l0]; rw [List.append_nil]; simp only [if_neg (show ¬ ((pre.length : Nat) : Int) < ((pre.length : Nat) : Int) by omega)]; simpa [memB] using evNow ((0 : Int), false)
 | r :: t, pre, last, acc, hl, hv, h0, h1 => by
  have hlc := len_cons pre r t; have hs := size_nonneg hv.2.2.2.2; have e1 : size ((r :: t).map L133) = (r.f1 - r.f0 + 1) + size (t.map L133) := size_cons _ _; have v0 : 0 ≤ r.f0 := hv.1; have v1 : r.f0 ≤ r.f1 := hv.2.1; have v2 : r.f1 ≤ top := hv.2.2.1; have ih := rank_loop N hN top ht x hx t (pre ++ [r]) r.f1 (acc + (r.f1 - r.f0 + 1)) (by rw [app_snoc]; exact hl) hv.2.2.2.2 (by omega) (by omega); rw [app_snoc, snoc_len] at ih; refine evSucc ?_; have hw : Aside0 (wrap64 ((pre.length : Int) + 1) = (pre.length : Int) + 1) := Aside0.mk (w64 (by omega) (by simp at hl; omega)); have c1 : (pre.length : Int) < ((pre ++ r :: t).length : Nat) := by rw [hlc]; omega
  have c2 : (0 : Int) ≤ pre.length := by omega
  have w1 : Aside0 (wrap64 (r.f1 - r.f0) = r.f1 - r.f0) := Aside0.mk (w64 (by omega) (by omega)); have w2 : Aside0 (wrap64 (r.f1 - r.f0 + 1) = r.f1 - r.f0 + 1) := Aside0.mk (w64 (by omega) (by omega)); have w3 : Aside0 (wrap64 (acc + (r.f1 - r.f0 + 1)) = acc + (r.f1 - r.f0 + 1)) := Aside0.mk (w64 (by omega) (by omega)); simp only [sets_Rank.l0, if_pos c1, if_pos c2, rd133, hw.out, w1.out, w2.out, w3.out]; have hm : (L133 r).1 = r.f0 ∧ (L133 r).2 = r.f1 := ⟨rfl, rfl⟩; by_cases d1 : x < r.f0
  ·simp only [if_pos d1]; have : ¬ memB ((r :: t).map L133) x = true := fun h => by
    rcases mem_cons.1 (memB_iff.1 h) with h | h
    ·have := h.1; simp only [hm.1] at this; omega
    ·have := ValidFrom.gt hv.2.2.2.2 h; simp only [hm.2] at this; omega
   rw [if_neg this]; exact evNow _
  by_cases d2 : x ≤ r.f1
  ·have w4 : Aside0 (wrap64 (acc + x) = acc + x) := Aside0.mk (w64 (by omega) (by omega)); have w5 : Aside0 (wrap64 (acc + x - r.f0) = acc + x - r.f0) := Aside0.mk (w64 (by omega) (by omega)); simp only [if_neg d1, if_pos d2, w4.out, w5.out]; have h : memB ((r :: t).map L133) x = true := memB_iff.2 (mem_cons.2 (.inl ⟨by simp only [hm.1]; omega, by simp only [hm.2]; omega⟩)); have hc := cd_in_first (x := x) (show ValidFrom top last (L133 r :: t.map L133) from hv) (by simp only [hm.1]; omega) (by simp only [hm.2]; omega); rw [if_pos h, List.map_cons, hc, hm.1, show acc + (x - r.f0) = acc + x - r.f0 by omega]; exact evNow _
  ·simp only [if_neg d1, if_neg d2]; have hc := cd_past_first (x := x) (show ValidFrom top last (L133 r :: t.map L133) from hv) (by simp only [hm.2]; omega); have e2 : memB ((r :: t).map L133) x = memB (t.map L133) x := memB_eq ⟨fun h => by
    rcases mem_cons.1 h with h | h
    ·have := h.2; simp only [hm.2] at this; omega
    ·exact h, fun h => mem_cons.2 (.inr h)⟩
   have e3 : acc + (cd (memB ((r :: t).map L133)) x.toNat : Int) = acc + (r.f1 - r.f0 + 1) + (cd (memB (t.map L133)) x.toNat : Int) := by rw [List.map_cons, hc, hm.1, hm.2]; omega
   rw [e2, e3]; exact ih
theorem valid_top {top : Int} {l : List Run} (hv : ValidFrom top (-2) l) (ht : top ≤ 1073741823) : size l ≤ 4294967296 := by
 cases l with
 | nil => simp [size_nil]
 | cons r t => have := hv.1; have := hv.2.1; have := hv.2.2.1; have := size_le hv (by omega); omega
theorem rank_is (top : Int) (ht : top ≤ 1073741823) (l : List S133) (x : Int) (hx : (Lit.int .i64 x).wf = true) (hl : l.length ≤ 8796093022206) (hv : ValidFrom top (-2) (l.map L133)) : Ev (fun k => sets_Rank.f k l x) (rankL (l.map L133) x) := by
 have h := rank_loop l.length hl top ht x hx l [] (-2) 0 (by simp) hv (by omega) (by have := valid_top hv ht; omega); simpa [sets_Rank.f, rankL] using h
def Sel (l : List Run) (k : Int) (r : Int × Bool) : Prop := (∃ x, Mem l x ∧ (cd (memB l) x.toNat : Int) = k ∧ r = (x, true)) ∨ ((k < 0 ∨ size l ≤ k) ∧ r = (0, false))
theorem Sel.uniq {top : Int} {l : List Run} (hv : ValidFrom top (-2) l) {k : Int} {r q : Int × Bool} (h : Sel l k r) (h' : Sel l k q) : r = q := by
 have lt : ∀ x, Mem l x → (cd (memB l) x.toNat : Int) < size l := fun x hx => by
  have hr := hv.range hx; have := cd_size (n := top.toNat + 1) hv (by omega); have e : ((x.toNat : Nat) : Int) = x := Int.toNat_of_nonneg hr.1; have := cd_lt (memB l) (m := x.toNat) (n := top.toNat + 1) (by omega) (by rw [e]; exact memB_iff.2 hx); omega
 rcases h with ⟨x, hx, hk, rfl⟩ | ⟨hk, rfl⟩ <;> rcases h' with ⟨y, hy, hk', rfl⟩ | ⟨hk', rfl⟩
 ·have ex : ((x.toNat : Nat) : Int) = x := Int.toNat_of_nonneg (hv.range hx).1; have ey : ((y.toNat : Nat) : Int) = y := Int.toNat_of_nonneg (hv.range hy).1; have := cd_inj (memB l) (m := x.toNat) (n := y.toNat) (by rw [ex]; exact memB_iff.2 hx) (by rw [ey]; exact memB_iff.2 hy) (by omega); rw [show x = y by omega]
 ·have := lt x hx; omega
 ·have := lt y hy; omega
 ·rfl
theorem select_loop (N : Nat) (hN : N ≤ 8796093022206) (top : Int) (ht : top ≤ 1073741823) : ∀ (t pre : List S133) (last kk : Int), (pre ++ t).length ≤ N → ValidFrom top last (t.map L133) → 0 ≤ kk → kk ≤ 9223372036854775807 →
 ∃ r, Ev (fun k => sets_Select.l0 k kk (pre ++ t) (((pre ++ t).length : Nat) : Int) (pre.length : Int)) r ∧ Sel (t.map L133) kk r
 | [], pre, last, kk, _, _, h0, _ => by
  refine ⟨(0, false), evSucc ?_, .inr ⟨.inr (by simpa [size_nil] using h0), rfl⟩⟩; simp only [sets_Select.l0]; rw [List.append_nil]; simp only [if_neg (show ¬ ((pre.length : Nat) : Int) < ((pre.length : Nat) : Int) by omega)]; exact evNow _
 | r :: t, pre, last, kk, hl, hv, h0, h1 => by
  have hlc := len_cons pre r t; have v0 : 0 ≤ r.f0 := hv.1; have v1 : r.f0 ≤ r.f1 := hv.2.1; have v2 : r.f1 ≤ top := hv.2.2.1; have hm : (L133 r).1 = r.f0 ∧ (L133 r).2 = r.f1 := ⟨rfl, rfl⟩; have hw : Aside0 (wrap64 ((pre.length : Int) + 1) = (pre.length : Int) + 1) := Aside0.mk (w64 (by omega) (by simp at hl; omega)); have c1 : (pre.length : Int) < ((pre ++ r :: t).length : Nat) := by rw [hlc]; omega
  have c2 : (0 : Int) ≤ pre.length := by omega
  have w1 : Aside0 (wrap64 (r.f1 - r.f0) = r.f1 - r.f0) := Aside0.mk (w64 (by omega) (by omega)); have w2 : Aside0 (wrap64 (r.f1 - r.f0 + 1) = r.f1 - r.f0 + 1) := Aside0.mk (w64 (by omega) (by omega)); by_cases d1 : kk ≤ r.f1 - r.f0
  ·have w3 : Aside0 (wrap64 (r.f0 + kk) = r.f0 + kk) := Aside0.mk (w64 (by omega) (by omega)); refine ⟨(r.f0 + kk, true), evSucc ?_, .inl ⟨r.f0 + kk, mem_cons.2 (.inl ⟨by simp only [hm.1]; omega, by simp only [hm.2]; omega⟩), ?_, rfl⟩⟩
   ·simp only [sets_Select.l0, if_pos c1, if_pos c2, rd133, hw.out, w1.out, w2.out, w3.out, if_pos d1]; exact evNow _
   ·have hc := cd_in_first (x := r.f0 + kk) (show ValidFrom top last (L133 r :: t.map L133) from hv) (by simp only [hm.1]; omega) (by simp only [hm.2]; omega); rw [List.map_cons, hc, hm.1]; omega
  ·have w3 : Aside0 (wrap64 (kk - (r.f1 - r.f0 + 1)) = kk - (r.f1 - r.f0 + 1)) := Aside0.mk (w64 (by omega) (by omega)); obtain ⟨q, hq, hs⟩ := select_loop N hN top ht t (pre ++ [r]) r.f1 (kk - (r.f1 - r.f0 + 1)) (by rw [app_snoc]; exact hl) hv.2.2.2.2 (by omega) (by omega); rw [app_snoc, snoc_len] at hq; refine ⟨q, evSucc ?_, ?_⟩
   ·simp only [sets_Select.l0, if_pos c1, if_pos c2, rd133, hw.out, w1.out, w2.out, w3.out, if_neg d1]; exact hq
   ·rcases hs with ⟨x, hx, hk, rfl⟩ | ⟨hk, rfl⟩
    ·have hg := ValidFrom.gt hv.2.2.2.2 hx; rw [hm.2] at hg; refine .inl ⟨x, mem_cons.2 (.inr hx), ?_, rfl⟩; have hc := cd_past_first (x := x) (show ValidFrom top last (L133 r :: t.map L133) from hv) (by simp only [hm.2]; omega); rw [List.map_cons, hc, hk, hm.1, hm.2]; omega
    ·have e1 : size ((r :: t).map L133) = (r.f1 - r.f0 + 1) + size (t.map L133) := size_cons _ _; exact .inr ⟨.inr (by omega), rfl⟩
theorem select_is (top : Int) (ht : top ≤ 1073741823) (l : List S133) (kk : Int) (hk : (Lit.int .i64 kk).wf = true) (hl : l.length ≤ 8796093022206) (hv : ValidFrom top (-2) (l.map L133)) : ∃ r, Ev (fun k => sets_Select.f k l kk) r ∧ Sel (l.map L133) kk r := by
 by_cases h0 : kk < 0
 ·exact ⟨(0, false), by simp only [sets_Select.f, if_pos h0]; exact evNow _, .inr ⟨.inl h0, rfl⟩⟩
 ·have hb := bounds_i64 hk; obtain ⟨r, hr, hs⟩ := select_loop l.length hl top ht l [] (-2) kk (by simp) hv (by omega) (by omega); exact ⟨r, by simp only [sets_Select.f, if_neg h0]; simpa using hr, hs⟩
theorem mx_eq (a b : Int) : mx a b = max a b := by unfold mx; omega
theorem mn_eq (a b : Int) : mn a b = min a b := by unfold mn; omega
theorem norm_loop (N : Nat) (hN : N ≤ 8796093022206) (top : Int) (ht : top ≤ 1073741823) : ∀ (t pre o : List S133) (q : S133), (pre ++ t).length ≤ N → o.length + t.length + 1 ≤ N → (∀ r ∈ t, q.f0 ≤ r.f0) → t.Pairwise (fun x y => x.f0 ≤ y.f0) → (∀ r ∈ q :: t, 0 ≤ r.f0 ∧ r.f0 ≤ r.f1 ∧ r.f1 ≤ top) →
 ∃ m, Ev (fun k => sets_Norm.l0 k (pre ++ t) (o ++ [q]) (((pre ++ t).length : Nat) : Int) (pre.length : Int)) (o ++ m, pre ++ t) ∧ m.length ≤ t.length + 1 ∧ (∀ last, last < q.f0 - 1 → ValidFrom top last (m.map L133)) ∧ ∀ x, Mem (m.map L133) x ↔ Mem ((q :: t).map L133) x
 | [], pre, o, q, _, _, _, _, hr => by
  have hq := hr q List.mem_cons_self; refine ⟨[q], evSucc ?_, by simp, fun last hlast => ⟨hq.1, hq.2.1, hq.2.2, hlast, trivial⟩, fun x => Iff.rfl⟩; simp only [sets_Norm.l0]; rw [List.append_nil]; simp only [if_neg (show ¬ ((pre.length : Nat) : Int) < ((pre.length : Nat) : Int) by omega)]; exact evNow _
 | r :: t, pre, o, q, hl, ho, hs, hp, hr => by
  have hq := hr q List.mem_cons_self; have hr1 := hr r (List.mem_cons_of_mem _ List.mem_cons_self); have hqr := hs r List.mem_cons_self; have hp' := List.pairwise_cons.1 hp; have hlc := len_cons pre r t; have hw : Aside0 (wrap64 ((pre.length : Int) + 1) = (pre.length : Int) + 1) := Aside0.mk (w64 (by omega) (by simp at hl; omega)); have c1 : (pre.length : Int) < ((pre ++ r :: t).length : Nat) := by rw [hlc]; omega
  have c2 : (0 : Int) ≤ pre.length := by omega
  have ol : (((o ++ [q]).length : Nat) : Int) = (o.length : Int) + 1 := snoc_len o q; have hob : (o.length : Int) ≤ 8796093022207 := by omega
  have c3 : (((o ++ [q]).length : Nat) : Int) > 0 := by omega
  have w1 : Aside0 (wrap64 ((((o ++ [q]).length : Nat) : Int) - 1) = (o.length : Int)) := Aside0.mk (by rw [ol, w64 (by omega) (by omega)]; omega); have c4 : (0 : Int) ≤ (o.length : Int) := by omega
  have c5 : (o.length : Int) < (((o ++ [q]).length : Nat) : Int) := by omega
  have r1 : rd_T133 (o ++ [q]) (o.length : Int) = q := rd133 o q []; have w2 : Aside0 (wrap64 (q.f1 + 1) = q.f1 + 1) := Aside0.mk (w64 (by omega) (by omega)); have hlt : (o ++ [q]).length < 8796093022208 := by simp at ho ⊢; omega
  by_cases d : r.f0 ≤ q.f1 + 1
  ·obtain ⟨m, g1, g2, g3, g4⟩ := norm_loop N hN top ht t (pre ++ [r]) o ⟨q.f0, max q.f1 r.f1⟩ (by rw [app_snoc]; exact hl) (by simp at ho ⊢; omega) (fun z hz => Int.le_trans hqr (hp'.1 z hz)) hp'.2 (fun z hz => by
    rcases List.mem_cons.1 hz with rfl | hz
    ·exact ⟨hq.1, by show q.f0 ≤ max q.f1 r.f1; omega, by show max q.f1 r.f1 ≤ top; omega⟩
    ·exact hr z (List.mem_cons_of_mem _ (List.mem_cons_of_mem _ hz)))
   rw [app_snoc, snoc_len] at g1; refine ⟨m, evSucc ?_, by simp; omega, g3, fun x => ?_⟩
   ·simp only [sets_Norm.l0, if_pos c1, if_pos c2, rd133, hw.out, if_pos c3, w1.out, if_pos c4, if_pos c5, r1, w2.out, if_pos d, mx_eq]; have : (o ++ [q]).set (o.length : Int).toNat (⟨q.f0, max q.f1 r.f1⟩ : S133) = o ++ [⟨q.f0, max q.f1 r.f1⟩] := by simp
    rw [this]; exact g1
   ·rw [g4 x]; simp only [List.map_cons, mem_cons]; show (q.f0 ≤ x ∧ x ≤ max q.f1 r.f1) ∨ _ ↔ (q.f0 ≤ x ∧ x ≤ q.f1) ∨ (r.f0 ≤ x ∧ x ≤ r.f1) ∨ _; constructor
    ·rintro (h | h)
     ·by_cases e : x ≤ q.f1
      ·exact .inl (by omega)
      ·exact .inr (.inl (by omega))
     ·exact .inr (.inr h)
    ·rintro (h | h | h)
     ·exact .inl (by omega)
     ·exact .inl (by omega)
     ·exact .inr h
  ·obtain ⟨m, g1, g2, g3, g4⟩ := norm_loop N hN top ht t (pre ++ [r]) (o ++ [q]) r (by rw [app_snoc]; exact hl) (by simp at ho ⊢; omega) hp'.1 hp'.2 (fun z hz => hr z (List.mem_cons_of_mem _ hz)); rw [app_snoc, snoc_len] at g1; refine ⟨q :: m, evSucc ?_, by simp; omega, fun last hlast => ⟨hq.1, hq.2.1, hq.2.2, hlast, g3 _ (by show q.f1 < _; omega)⟩, fun x => ?_⟩
   ·simp only [sets_Norm.l0, if_pos c1, if_pos c2, rd133, hw.out, if_pos c3, w1.out, if_pos c4, if_pos c5, r1, w2.out, if_neg d, if_pos hlt]; simpa using g1
   ·rw [List.map_cons, mem_cons, g4 x]; exact mem_cons.symm
theorem norm_is (top : Int) (ht : top ≤ 1073741823) (l : List S133) (hl : l.length ≤ 8796093022206) (hr : ∀ r ∈ l, 0 ≤ r.f0 ∧ r.f0 ≤ r.f1 ∧ r.f1 ≤ top) :
 ∃ m s, Ev (fun k => sets_Norm.f k l) (m, s) ∧ m.length ≤ l.length ∧ ValidFrom top (-2) (m.map L133) ∧ ∀ x, Mem (m.map L133) x ↔ Mem (l.map L133) x := by
 obtain ⟨s, hs⟩ : ∃ s, sortRun.f l = some s := ⟨_, by unfold sortRun.f; rw [if_pos (show l.length < 8796093022208 by omega)]⟩
 obtain ⟨hp, hsort⟩ := sortRun.spec l s hs; have hlen := hp.length_eq; have hmem : ∀ x, Mem (s.map L133) x ↔ Mem (l.map L133) x := fun x => mem_perm (hp.map _)
 cases s with
 | nil =>
  refine ⟨[], [], ?_, by simp, trivial, hmem⟩; simp only [sets_Norm.f, hs, Option.bind_some]; refine evSucc ?_; simp only [sets_Norm.l0, ← hlen]; simp only [List.length_nil, if_neg (show ¬ (0 : Int) < ((0 : Nat) : Int) by omega)]; exact evNow _
 | cons q t =>
  have hr' : ∀ r ∈ q :: t, 0 ≤ r.f0 ∧ r.f0 ≤ r.f1 ∧ r.f1 ≤ top := fun r h => hr r (hp.mem_iff.1 h)
  have hsp := List.pairwise_cons.1 hsort; obtain ⟨m, g1, g2, g3, g4⟩ := norm_loop (q :: t).length (by omega) top ht t [q] [] q (by simp) (by simp) hsp.1 hsp.2 hr'; have hq := hr' q List.mem_cons_self; refine ⟨m, q :: t, ?_, by rw [← hlen]; simpa using g2, g3 _ (by omega), fun x => (g4 x).trans (hmem x)⟩; simp only [sets_Norm.f, hs, Option.bind_some, ← hlen]; refine evSucc ?_; have c1 : (0 : Int) < (((q :: t).length : Nat) : Int) := by rw [List.length_cons]; omega
  have r1 : rd_T133 (q :: t) 0 = q := rfl; have hw : Aside0 (wrap64 ((0 : Int) + 1) = 1) := Aside0.mk (by rw [w64 (by omega) (by omega)]; rfl); simp only [sets_Norm.l0, if_pos c1, if_pos (show (0 : Int) ≤ 0 by omega), r1, List.length_nil, if_neg (show ¬ ((0 : Nat) : Int) > 0 by omega), if_pos (show (0 : Nat) < 8796093022208 from Nat.zero_lt_succ _), hw.out]; exact g1
def setL (top : Int) (l : List Run) : List Run := if validB top (-2) l = true then l else []
theorem setL_valid (top : Int) (l : List Run) : ValidFrom top (-2) (setL top l) := by
 unfold setL; split
 ·rename_i h; exact (validB_iff _ _ _).1 h
 ·trivial
theorem setL_of {top : Int} {l : List Run} (h : ValidFrom top (-2) l) : setL top l = l := by unfold setL; rw [if_pos ((validB_iff _ _ _).2 h)]
theorem valid_len {top : Int} : ∀ {l : List Run} {last : Int}, ValidFrom top last l → (l.length : Int) ≤ size l
 | [], _, _ => by simp [size_nil]
 | r :: t, _, hv => by
  have := valid_len hv.2.2.2.2; have := hv.2.1; rw [size_cons]; simp; omega
theorem valid_len' {top : Int} {l : List Run} {last : Int} (hv : ValidFrom top last l) (h0 : 0 ≤ top) (ht : top ≤ 1073741823) : l.length ≤ 1073741824 := by
 have := valid_len hv; have := size_le hv h0; omega
theorem spans_set_is (l : List S34) (hl : l.length * 16 ≤ 140737488351232) : ∃ s, Ev (fun k => spans_set.f k l) s ∧ s.map L133 = setL 255 (l.map L34) := by
 have h1 := api_Span_106_is l hl; have h2 := valid_is 255 (by omega) (l.map api_Span_106_c) (by simp; omega); rw [api_Span_106_len] at h2; by_cases d : validB 255 (-2) (l.map L34) = true
 ·refine ⟨l.map api_Span_106_c, Ev.bind h1 (Ev.bind h2 ?_), by rw [api_Span_106_len]; unfold setL; rw [if_pos d]⟩; simp only [if_pos d]; exact evNow _
 ·refine ⟨[], Ev.bind h1 (Ev.bind h2 ?_), by unfold setL; rw [if_neg d]; rfl⟩; simp only [if_neg d]; exact evNow _
theorem spans_set_facts {l : List S34} {s : List S133} (h : s.map L133 = setL 255 (l.map L34)) : ValidFrom 255 (-2) (s.map L133) ∧ s.length ≤ 1073741824 := by
 have hv : ValidFrom 255 (-2) (s.map L133) := by rw [h]; exact setL_valid _ _
 have := valid_len' hv (by omega) (by omega); exact ⟨hv, by simpa using this⟩
theorem spans_Size_is (l : List S34) (hl : l.length * 16 ≤ 140737488351232) : Ev (fun k => spans_Size.f k l) (size (setL 255 (l.map L34))) := by
 obtain ⟨s, h1, h2⟩ := spans_set_is l hl; obtain ⟨hv, hn⟩ := spans_set_facts h2; have h3 := size_is 255 (by omega) s (by omega) hv; rw [h2] at h3; exact Ev.bind h1 (Ev.bind h3 (evNow _))
theorem spans_Rank_is (l : List S34) (x : Int) (hx : (Lit.int .i64 x).wf = true) (hl : l.length * 16 ≤ 140737488351232) : Ev (fun k => spans_Rank.f k l x) (rankL (setL 255 (l.map L34)) x) := by
 obtain ⟨s, h1, h2⟩ := spans_set_is l hl; obtain ⟨hv, hn⟩ := spans_set_facts h2; have h3 := rank_is 255 (by omega) s x hx (by omega) hv; rw [h2] at h3; exact Ev.bind h1 (Ev.bind h3 (evNow _))
theorem spans_Select_is (l : List S34) (kk : Int) (hk : (Lit.int .i64 kk).wf = true) (hl : l.length * 16 ≤ 140737488351232) : ∃ r, Ev (fun k => spans_Select.f k l kk) r ∧ Sel (setL 255 (l.map L34)) kk r := by
 obtain ⟨s, h1, h2⟩ := spans_set_is l hl; obtain ⟨hv, hn⟩ := spans_set_facts h2; obtain ⟨r, h3, h4⟩ := select_is 255 (by omega) s kk hk (by omega) hv; rw [h2] at h4; exact ⟨r, Ev.bind h1 (Ev.bind h3 (evNow _)), h4⟩
def spans_IsSet (l : List S34) (p : Int → Prop) : Prop := ValidFrom 255 (-2) (l.map L34) ∧ l.length ≤ 1073741824 ∧ ∀ x, Mem (l.map L34) x ↔ p x
theorem spans_IsSet.uniq {a b : List S34} {p q : Int → Prop} (ha : spans_IsSet a p) (hb : spans_IsSet b q) (h : ∀ x, p x ↔ q x) : a = b :=
 L34_inj (canon 255 _ _ _ _ ha.1 hb.1 fun x => (ha.2.2 x).trans ((h x).trans (hb.2.2 x).symm))
end Go.Proofs.Ytoljcfocgaonpaa.PB3
end
section
namespace Go.Proofs.Ytoljcfocgaonpaa.PB3
open Go.RowKit Go.Proofs.YtoljcfocgaonpaaW.PrintWords Go.Proofs.YtoljcfocgaonpaaW.PrintLast Go.Proofs.YtoljcfocgaonpaaW.PrintMore Go.Proofs.Ytoljcfocgaonpaa.I Go.Proofs.LT
set_option linter.unusedVariables false
set_option linter.unusedSimpArgs false
theorem meet_loop (N : Nat) (hN : N ≤ 8796093022206) (top : Int) (ht : top ≤ 1073741823) : ∀ (n : Nat) (a b out : List S133) (la lb : Int), a.length + b.length = n → out.length + a.length + b.length ≤ N → ValidFrom top la (a.map L133) → ValidFrom top lb (b.map L133) →
 ∃ m, Ev (fun k => sets_Meet.l0 k a b out) (out ++ m) ∧ m.length ≤ a.length + b.length ∧ ValidFrom top (max la lb) (m.map L133) ∧ ∀ x, Mem (m.map L133) x ↔ Mem (a.map L133) x ∧ Mem (b.map L133) x
 | n, [], b, out, la, lb, _, _, _, _ => by
  refine ⟨[], evSucc (evSucc ?_), by simp, trivial, fun x => ⟨fun h => (Mem.nil h).elim, fun h => (Mem.nil h.1).elim⟩⟩; simp only [sets_Meet.l0, List.length_nil]; simp only [if_neg (show ¬ ((0 : Nat) : Int) > 0 by omega), sets_Meet.j1]; simpa using evNow out
 | n, x :: a, [], out, la, lb, _, _, _, _ => by
  refine ⟨[], evSucc (evSucc ?_), by simp, trivial, fun x => ⟨fun h => (Mem.nil h).elim, fun h => (Mem.nil h.2).elim⟩⟩; simp only [sets_Meet.l0, List.length_nil, List.length_cons]; simp only [if_pos (show ((a.length + 1 : Nat) : Int) > 0 by omega), show decide (((0 : Nat) : Int) > 0) = false by decide, sets_Meet.j1]; simpa using evNow out
 | n, x :: a, y :: b, out, la, lb, hn, hl, ha, hb => by
  obtain ⟨a0, a1, a2, a3, a4⟩ := ha; obtain ⟨b0, b1, b2, b3, b4⟩ := hb; have ex : (L133 x).1 = x.f0 ∧ (L133 x).2 = x.f1 := ⟨rfl, rfl⟩; have ey : (L133 y).1 = y.f0 ∧ (L133 y).2 = y.f1 := ⟨rfl, rfl⟩; have c1 : ((((x :: a).length : Nat) : Int) > 0) := by rw [List.length_cons]; omega
  have c2 : decide ((((y :: b).length : Nat) : Int) > 0) = true := by rw [List.length_cons]; exact decide_eq_true (by omega)
  have c3 : (0 : Int) < (((x :: a).length : Nat) : Int) := c1; have c4 : (0 : Int) < (((y :: b).length : Nat) : Int) := by rw [List.length_cons]; omega
  have c5 : (1 : Int) ≤ (((x :: a).length : Nat) : Int) := by omega
  have c6 : (1 : Int) ≤ (((y :: b).length : Nat) : Int) := by omega
  have r1 : rd_T133 (x :: a) 0 = x := rfl; have r2 : rd_T133 (y :: b) 0 = y := rfl; have hlo : out.length < 8796093022208 := by simp at hl; omega
  simp only [ex.1, ex.2, ey.1, ey.2] at a0 a1 a2 a3 b0 b1 b2 b3; have main : ∀ (out' : List S133) (n' : Nat), out'.length + a.length + b.length + 1 ≤ N →
   ∃ m, Ev (fun k => if x.f1 < y.f1 then (if (1 : Int) ≤ (((x :: a).length : Nat) : Int) then sets_Meet.l0 k ((x :: a).drop 1) (y :: b) out' else none) else (if (1 : Int) ≤ (((y :: b).length : Nat) : Int) then sets_Meet.l0 k (x :: a) ((y :: b).drop 1) out' else none)) (out' ++ m) ∧ m.length ≤ a.length + b.length + 1 ∧ ValidFrom top (if x.f1 < y.f1 then max x.f1 lb else max la y.f1) (m.map L133) ∧
    ∀ z, Mem (m.map L133) z ↔ (if x.f1 < y.f1 then Mem (a.map L133) z ∧ Mem ((y :: b).map L133) z else Mem ((x :: a).map L133) z ∧ Mem (b.map L133) z) := fun out' n' hl' => by
   by_cases d : x.f1 < y.f1
   ·obtain ⟨m, h1, h2, h3, h4⟩ := meet_loop N hN top ht (a.length + (y :: b).length) a (y :: b) out' x.f1 lb rfl (by simp; omega) a4 ⟨b0, b1, b2, b3, b4⟩; refine ⟨m, ?_, by simp at h2; omega, by rw [if_pos d]; exact h3, fun z => by rw [if_pos d]; exact h4 z⟩; simp only [if_pos d, if_pos c5, List.drop_one, List.tail_cons]; exact h1
   ·obtain ⟨m, h1, h2, h3, h4⟩ := meet_loop N hN top ht ((x :: a).length + b.length) (x :: a) b out' la y.f1 rfl (by simp; omega) ⟨a0, a1, a2, a3, a4⟩ b4; refine ⟨m, ?_, by simp at h2; omega, by rw [if_neg d]; exact h3, fun z => by rw [if_neg d]; exact h4 z⟩; simp only [if_neg d, if_pos c6, List.drop_one, List.tail_cons]; exact h1
  by_cases d0 : max x.f0 y.f0 ≤ min x.f1 y.f1
  ·obtain ⟨m, h1, h2, h3, h4⟩ := main (out ++ [⟨max x.f0 y.f0, min x.f1 y.f1⟩]) 0 (by simp at hl ⊢; omega); refine ⟨⟨max x.f0 y.f0, min x.f1 y.f1⟩ :: m, evSucc (evSucc ?_), by simp; omega, ?_, fun z => ?_⟩
   ·simp only [sets_Meet.l0, if_pos c1, c2, sets_Meet.j1, if_true, if_pos c3, if_pos c4, r1, r2, mx_eq, mn_eq, if_pos d0, if_pos hlo, Option.bind_some]; simpa using h1
   ·refine ⟨?_, ?_, ?_, ?_, ?_⟩
    ·show 0 ≤ max x.f0 y.f0; omega
    ·exact d0
    ·show min x.f1 y.f1 ≤ top; omega
    ·show max la lb < max x.f0 y.f0 - 1; omega
    ·refine ValidFrom.mono ?_ h3; show min x.f1 y.f1 ≤ _; split <;> omega
   ·rw [List.map_cons, mem_cons, h4 z]; have e : (L133 ⟨max x.f0 y.f0, min x.f1 y.f1⟩).1 = max x.f0 y.f0 ∧ (L133 ⟨max x.f0 y.f0, min x.f1 y.f1⟩).2 = min x.f1 y.f1 := ⟨rfl, rfl⟩; rw [e.1, e.2]; have ga : ∀ z, Mem (a.map L133) z → x.f1 + 1 < z := fun z h => ValidFrom.gt a4 h
    have gb : ∀ z, Mem (b.map L133) z → y.f1 + 1 < z := fun z h => ValidFrom.gt b4 h
    simp only [List.map_cons, mem_cons, ex.1, ex.2, ey.1, ey.2]; by_cases d : x.f1 < y.f1
    ·simp only [if_pos d]; constructor
     ·rintro (h | ⟨h, h'⟩)
      ·exact ⟨.inl (by omega), .inl (by omega)⟩
      ·exact ⟨.inr h, h'⟩
     ·rintro ⟨h | h, h'⟩
      ·rcases h' with h' | h'
       ·exact .inl (by omega)
       ·have := gb z h'; omega
      ·exact .inr ⟨h, h'⟩
    ·simp only [if_neg d]; constructor
     ·rintro (h | ⟨h, h'⟩)
      ·exact ⟨.inl (by omega), .inl (by omega)⟩
      ·exact ⟨h, .inr h'⟩
     ·rintro ⟨h, h' | h'⟩
      ·rcases h with h | h
       ·exact .inl (by omega)
       ·have := ga z h; omega
      ·exact .inr ⟨h, h'⟩
  ·obtain ⟨m, h1, h2, h3, h4⟩ := main out 0 (by simp at hl; omega); refine ⟨m, evSucc (evSucc ?_), by simp; omega, ?_, fun z => ?_⟩
   ·simp only [sets_Meet.l0, if_pos c1, c2, sets_Meet.j1, if_true, if_pos c3, if_pos c4, r1, r2, mx_eq, mn_eq, if_neg d0]; exact h1
   ·refine ValidFrom.mono ?_ h3; split <;> omega
   ·rw [h4 z]; have ga : ∀ z, Mem (a.map L133) z → x.f1 + 1 < z := fun z h => ValidFrom.gt a4 h
    have gb : ∀ z, Mem (b.map L133) z → y.f1 + 1 < z := fun z h => ValidFrom.gt b4 h
    simp only [List.map_cons, mem_cons, ex.1, ex.2, ey.1, ey.2]; by_cases d : x.f1 < y.f1
    ·simp only [if_pos d]; constructor
     ·rintro ⟨h, h'⟩; exact ⟨.inr h, h'⟩
     ·rintro ⟨h | h, h'⟩
      ·rcases h' with h' | h'
       ·omega
       ·have := gb z h'; omega
      ·exact ⟨h, h'⟩
    ·simp only [if_neg d]; constructor
     ·rintro ⟨h, h'⟩; exact ⟨h, .inr h'⟩
     ·rintro ⟨h, h' | h'⟩
      ·rcases h with h | h
       ·omega
       ·have := ga z h; omega
      ·exact ⟨h, h'⟩
termination_by n a b => a.length + b.length
theorem meet_is (top : Int) (ht : top ≤ 1073741823) (a b : List S133) (hl : a.length + b.length ≤ 8796093022206) (ha : ValidFrom top (-2) (a.map L133)) (hb : ValidFrom top (-2) (b.map L133)) :
 ∃ m, Ev (fun k => sets_Meet.f k a b) m ∧ m.length ≤ a.length + b.length ∧ ValidFrom top (-2) (m.map L133) ∧ ∀ x, Mem (m.map L133) x ↔ Mem (a.map L133) x ∧ Mem (b.map L133) x := by
 obtain ⟨m, h1, h2, h3, h4⟩ := meet_loop (a.length + b.length) hl top ht _ a b [] (-2) (-2) rfl (by simp) ha hb; exact ⟨m, by simpa [sets_Meet.f] using h1, h2, by simpa using h3, h4⟩
end Go.Proofs.Ytoljcfocgaonpaa.PB3
end
section
namespace Go.Proofs.Ytoljcfocgaonpaa.PB3
open Go.RowKit Go.Proofs.YtoljcfocgaonpaaW.PrintWords Go.Proofs.YtoljcfocgaonpaaW.PrintLast Go.Proofs.YtoljcfocgaonpaaW.PrintMore Go.Proofs.Ytoljcfocgaonpaa.I Go.Proofs.LT
set_option linter.unusedVariables false
set_option linter.unusedSimpArgs false
theorem spans_Valid_is (l : List S34) (hl : l.length * 16 ≤ 140737488351232) : Ev (fun k => spans_Valid.f k l) (validB 255 (-2) (l.map L34)) := by
 have h1 := api_Span_106_is l hl; have h2 := valid_is 255 (by omega) (l.map api_Span_106_c) (by simp; omega); rw [api_Span_106_len] at h2; exact Ev.bind h1 (Ev.bind h2 (evNow _))
end Go.Proofs.Ytoljcfocgaonpaa.PB3
end
section
namespace Go.Proofs.Ytoljcfocgaonpaa.PB4
open Go.RowKit Go.Proofs.YtoljcfocgaonpaaW.PrintWords Go.Proofs.YtoljcfocgaonpaaW.PrintLast Go.Proofs.YtoljcfocgaonpaaW.PrintMore Go.Proofs.Ytoljcfocgaonpaa.I Go.Proofs.LT
set_option linter.unusedVariables false
set_option linter.unusedSimpArgs false
theorem evSucc {α : Type} {g : Nat → Option α} {r : α} (h : Ev (fun k => g (k + 1)) r) : Ev g r := Ev.step (fun _ => rfl) h
theorem evNow {α : Type} (r : α) : Ev (fun _ => some r) r := Ev.now r
theorem w64 {x : Int} (h0 : -9223372036854775808 ≤ x) (h1 : x ≤ 9223372036854775807) : wrap64 x = x := by unfold wrap64; omega
def L133 (x : S133) : Run := (x.f0, x.f1)
def L43 (x : S43) : Run := (x.f0, x.f1)
theorem L43_inj : ∀ {a b : List S43}, a.map L43 = b.map L43 → a = b
 | [], [], _ => rfl
 | [], _ :: _, h => by simp at h
 | _ :: _, [], h => by simp at h
 | ⟨_, _⟩ :: t, ⟨_, _⟩ :: t', h => by
  simp only [List.map_cons, List.cons.injEq, L43, Prod.mk.injEq] at h; obtain ⟨⟨rfl, rfl⟩, h⟩ := h; rw [L43_inj h]
theorem rd133 (pre : List S133) (r : S133) (t : List S133) : rd_T133 (pre ++ r :: t) (pre.length : Int) = r := by simp [rd_T133]
theorem rd43 (pre : List S43) (r : S43) (t : List S43) : rd_T43 (pre ++ r :: t) (pre.length : Int) = r := by simp [rd_T43]
theorem snoc_len {α : Type} (pre : List α) (r : α) : (((pre ++ [r]).length : Nat) : Int) = (pre.length : Int) + 1 := by simp
theorem app_snoc {α : Type} (pre : List α) (r : α) (t : List α) : (pre ++ [r]) ++ t = pre ++ r :: t := by simp
theorem len_cons {α : Type} (pre : List α) (r : α) (t : List α) : (((pre ++ r :: t).length : Nat) : Int) = pre.length + 1 + t.length := by simp; omega
def api_Range_c (x : S43) : S133 := ⟨x.f0, x.f1⟩
theorem api_Range_loop (N : Nat) (hN : N ≤ 8796093022206) : ∀ (t pre : List S43) (out : List S133), (pre ++ t).length ≤ N → out.length = pre.length → Ev (fun k => api_Range.l0 k out (pre ++ t) (((pre ++ t).length : Nat) : Int) (pre.length : Int)) (out ++ t.map api_Range_c)
 | [], pre, out, _, _ => by
  refine evSucc ?_; simp only [api_Range.l0]; rw [List.append_nil]; simp only [if_neg (show ¬ ((pre.length : Nat) : Int) < ((pre.length : Nat) : Int) by omega)]; simpa using evNow out
 | r :: t, pre, out, hl, ho => by
  have hlc := len_cons pre r t; have hlt : out.length < 8796093022208 := by simp at hl; omega
  have ih := api_Range_loop N hN t (pre ++ [r]) (out ++ [api_Range_c r]) (by rw [app_snoc]; exact hl) (by simp [ho]); rw [app_snoc, snoc_len] at ih; refine evSucc ?_; have hw : Aside0 (wrap64 ((pre.length : Int) + 1) = (pre.length : Int) + 1) := Aside0.mk (w64 (by omega) (by simp at hl; omega)); have c1 : (pre.length : Int) < ((pre ++ r :: t).length : Nat) := by rw [hlc]; omega
  have c2 : (0 : Int) ≤ pre.length := by omega
  simp only [api_Range.l0, if_pos c1, if_pos c2, if_pos hlt, rd43, hw.out]; simpa [api_Range_c] using ih
theorem api_Range_is (l : List S43) (hl : l.length * 16 ≤ 140737488351232) : Ev (fun k => api_Range.f k l) (l.map api_Range_c) := by
 have h := api_Range_loop l.length (by omega) l [] [] (by simp) rfl; have c1 : (0 : Int) ≤ (l.length : Int) := by omega
 have c2 : ((l.length : Int) : Int).toNat ≤ 17592186044416 := by omega
 simp only [api_Range.f, if_pos c1, if_pos c2]; simpa using h
theorem api_Range_len (l : List S43) : (l.map api_Range_c).map L133 = l.map L43 := by rw [List.map_map]; rfl
def sets_Run_135_c (x : S133) : S43 := ⟨x.f0, x.f1⟩
theorem sets_Run_135_loop (N : Nat) (hN : N ≤ 8796093022206) : ∀ (t pre : List S133) (out : List S43), (pre ++ t).length ≤ N → out.length = pre.length → Ev (fun k => sets_Run_135.l0 k out (pre ++ t) (((pre ++ t).length : Nat) : Int) (pre.length : Int)) (out ++ t.map sets_Run_135_c)
 | [], pre, out, _, _ => by
  refine evSucc ?_; simp only [sets_Run_135.l0]; rw [List.append_nil]; simp only [if_neg (show ¬ ((pre.length : Nat) : Int) < ((pre.length : Nat) : Int) by omega)]; simpa using evNow out
 | r :: t, pre, out, hl, ho => by
  have hlc := len_cons pre r t; have hlt : out.length < 8796093022208 := by simp at hl; omega
  have ih := sets_Run_135_loop N hN t (pre ++ [r]) (out ++ [sets_Run_135_c r]) (by rw [app_snoc]; exact hl) (by simp [ho]); rw [app_snoc, snoc_len] at ih; refine evSucc ?_; have hw : Aside0 (wrap64 ((pre.length : Int) + 1) = (pre.length : Int) + 1) := Aside0.mk (w64 (by omega) (by simp at hl; omega)); have c1 : (pre.length : Int) < ((pre ++ r :: t).length : Nat) := by rw [hlc]; omega
  have c2 : (0 : Int) ≤ pre.length := by omega
  simp only [sets_Run_135.l0, if_pos c1, if_pos c2, if_pos hlt, rd133, hw.out]; simpa [sets_Run_135_c] using ih
theorem sets_Run_135_is (l : List S133) (hl : l.length * 16 ≤ 140737488351232) : Ev (fun k => sets_Run_135.f k l) (l.map sets_Run_135_c) := by
 have h := sets_Run_135_loop l.length (by omega) l [] [] (by simp) rfl; have c1 : (0 : Int) ≤ (l.length : Int) := by omega
 have c2 : ((l.length : Int) : Int).toNat ≤ 17592186044416 := by omega
 simp only [sets_Run_135.f, if_pos c1, if_pos c2]; simpa using h
theorem sets_Run_135_len (l : List S133) : (l.map sets_Run_135_c).map L43 = l.map L133 := by rw [List.map_map]; rfl
theorem valid_loop (N : Nat) (hN : N ≤ 8796093022206) (top : Int) (ht : top ≤ 1073741823) : ∀ (t pre : List S133) (last : Int), (pre ++ t).length ≤ N → Ev (fun k => sets_Valid.l0 k top last (pre ++ t) (((pre ++ t).length : Nat) : Int) (pre.length : Int)) (validB top last (t.map L133))
 | [], pre, last, _ => by
  refine evSucc ?_; simp only [sets_Valid.l0]; rw [List.append_nil]; simp only [if_neg (show ¬ ((pre.length : Nat) : Int) < ((pre.length : Nat) : Int) by omega)]; rw [show validB top last (([] : List S133).map L133) = true from validB_nil _ _]; exact evNow _
 | r :: t, pre, last, hl => by
  have hlc := len_cons pre r t; have ih := valid_loop N hN top ht t (pre ++ [r]) r.f1 (by rw [app_snoc]; exact hl); rw [app_snoc, snoc_len] at ih; refine evSucc ?_; have hw : Aside0 (wrap64 ((pre.length : Int) + 1) = (pre.length : Int) + 1) := Aside0.mk (w64 (by omega) (by simp at hl; omega)); have c1 : (pre.length : Int) < ((pre ++ r :: t).length : Nat) := by rw [hlc]; omega
  have c2 : (0 : Int) ≤ pre.length := by omega
  simp only [sets_Valid.l0, if_pos c1, if_pos c2, rd133, hw.out, List.map_cons, validB_cons, L133]; by_cases d1 : r.f0 < 0
  ·simp only [if_pos d1]; exact evNow _
  by_cases d2 : r.f0 > r.f1
  ·simp only [if_neg d1, if_pos d2]; exact evNow _
  by_cases d3 : r.f1 > top
  ·simp only [if_neg d1, if_neg d2, if_pos d3]; exact evNow _
  have hw2 : Aside0 (wrap64 (r.f0 - 1) = r.f0 - 1) := Aside0.mk (w64 (by omega) (by omega)); simp only [if_neg d1, if_neg d2, if_neg d3, hw2.out]; by_cases d4 : r.f0 - 1 ≤ last
  ·simp only [if_pos d4]; exact evNow _
  ·simp only [if_neg d4]; exact ih
theorem valid_is (top : Int) (ht : top ≤ 1073741823) (l : List S133) (hl : l.length ≤ 8796093022206) : Ev (fun k => sets_Valid.f k l top) (validB top (-2) (l.map L133)) := by
 have h := valid_loop l.length hl top ht l [] (-2) (by simp); simpa [sets_Valid.f] using h
theorem size_loop (N : Nat) (hN : N ≤ 8796093022206) (top : Int) (ht : top ≤ 1073741823) : ∀ (t pre : List S133) (last acc : Int), (pre ++ t).length ≤ N → ValidFrom top last (t.map L133) → 0 ≤ acc → acc + size (t.map L133) ≤ 4294967296 →
 Ev (fun k => sets_Size.l0 k acc (pre ++ t) (((pre ++ t).length : Nat) : Int) (pre.length : Int)) (acc + size (t.map L133))
 | [], pre, last, acc, _, _, _, _ => by
  refine evSucc ?_; simp only [sets_Size.l0]; rw [List.append_nil]; simp only [if_neg (show ¬ ((pre.length : Nat) : Int) < ((pre.length : Nat) : Int) by omega)]; simpa [size_nil] using evNow acc
 | r :: t, pre, last, acc, hl, hv, h0, h1 => by
  have hlc := len_cons pre r t; have hs := size_nonneg hv.2.2.2.2; have e1 : size ((r :: t).map L133) = (r.f1 - r.f0 + 1) + size (t.map L133) := size_cons _ _; have v0 : 0 ≤ r.f0 := hv.1; have v1 : r.f0 ≤ r.f1 := hv.2.1; have v2 : r.f1 ≤ top := hv.2.2.1; have ih := size_loop N hN top ht t (pre ++ [r]) r.f1 (acc + (r.f1 - r.f0 + 1)) (by rw [app_snoc]; exact hl) hv.2.2.2.2 (by omega) (by omega); rw [app_snoc, snoc_len] at ih; refine evSucc ?_; have hw : Aside0 (wrap64 ((pre.length : Int) + 1) = (pre.length : Int) + 1) := Aside0.mk (w64 (by omega) (by simp at hl; omega)); have c1 : (pre.length : Int) < ((pre ++ r :: t).length : Nat) := by rw [hlc]; omega
  have c2 : (0 : Int) ≤ pre.length := by omega
  have w1 : Aside0 (wrap64 (r.f1 - r.f0) = r.f1 - r.f0) := Aside0.mk (w64 (by omega) (by omega)); have w2 : Aside0 (wrap64 (r.f1 - r.f0 + 1) = r.f1 - r.f0 + 1) := Aside0.mk (w64 (by omega) (by omega)); have w3 : Aside0 (wrap64 (acc + (r.f1 - r.f0 + 1)) = acc + (r.f1 - r.f0 + 1)) := Aside0.mk (w64 (by omega) (by omega)); simp only [sets_Size.l0, if_pos c1, if_pos c2, rd133, hw.out, w1.out, w2.out, w3.out]; have e2 : acc + size ((r :: t).map L133) = acc + (r.f1 - r.f0 + 1) + size (t.map L133) := by omega
  rw [e2]; exact ih
theorem size_is (top : Int) (ht : top ≤ 1073741823) (l : List S133) (hl : l.length ≤ 8796093022206) (hv : ValidFrom top (-2) (l.map L133)) : Ev (fun k => sets_Size.f k l) (size (l.map L133)) := by
 have h0 : (0:Int) ≤ top ∨ l = [] := by
  cases l with
  | nil => exact .inr rfl
  | cons r t => have := hv.1; have := hv.2.1; have := hv.2.2.1; exact .inl (by omega)
 have hs : size (l.map L133) ≤ 4294967296 := by
  rcases h0 with h0 | rfl
  ·have := size_le hv h0; omega
  ·simp [size_nil]
 have h := size_loop l.length hl top ht l [] (-2) 0 (by simp) hv (by omega) (by omega); simpa [sets_Size.f] using h
def rankL (l : List Run) (x : Int) : Int × Bool := if memB l x = true then ((cd (memB l) x.toNat : Int), true) else (0, false)
theorem rank_loop (N : Nat) (hN : N ≤ 8796093022206) (top : Int) (ht : top ≤ 1073741823) (x : Int) (hx : (Lit.int .i64 x).wf = true) : ∀ (t pre : List S133) (last acc : Int), (pre ++ t).length ≤ N → ValidFrom top last (t.map L133) → 0 ≤ acc → acc + size (t.map L133) ≤ 4294967296 →
 Ev (fun k => sets_Rank.l0 k x acc (pre ++ t) (((pre ++ t).length : Nat) : Int) (pre.length : Int)) (if memB (t.map L133) x = true then (acc + (cd (memB (t.map L133)) x.toNat : Int), true) else (0, false))
 | [], pre, last, acc, _, _, _, _ => by
  refine evSucc ?_; simp only [sets_Rank.l0]; rw [List.append_nil]; simp only [if_neg (show ¬ ((pre.length : Nat) : Int) < ((pre.length : Nat) : Int) by omega)]; simpa [memB] using evNow ((0 : Int), false)
 | r :: t, pre, last, acc, hl, hv, h0, h1 => by
  have hlc := len_cons pre r t; have hs := size_nonneg hv.2.2.2.2; have e1 : size ((r :: t).map L133) = (r.f1 - r.f0 + 1) + size (t.map L133) := size_cons _ _; have v0 : 0 ≤ r.f0 := hv.1; have v1 : r.f0 ≤ r.f1 := hv.2.1; have v2 : r.f1 ≤ top := hv.2.2.1; have ih := rank_loop N hN top ht x hx t (pre ++ [r]) r.f1 (acc + (r.f1 - r.f0 + 1)) (by rw [app_snoc]; exact hl) hv.2.2.2.2 (by omega) (by omega); rw [app_snoc, snoc_len] at ih; refine evSucc ?_; have hw : Aside0 (wrap64 ((pre.length : Int) + 1) = (pre.length : Int) + 1) := Aside0.mk (w64 (by omega) (by simp at hl; omega)); have c1 : (pre.length : Int) < ((pre ++ r :: t).length : Nat) := by rw [hlc]; omega
  have c2 : (0 : Int) ≤ pre.length := by omega
  have w1 : Aside0 (wrap64 (r.f1 - r.f0) = r.f1 - r.f0) := Aside0.mk (w64 (by omega) (by omega)); have w2 : Aside0 (wrap64 (r.f1 - r.f0 + 1) = r.f1 - r.f0 + 1) := Aside0.mk (w64 (by omega) (by omega)); have w3 : Aside0 (wrap64 (acc + (r.f1 - r.f0 + 1)) = acc + (r.f1 - r.f0 + 1)) := Aside0.mk (w64 (by omega) (by omega)); simp only [sets_Rank.l0, if_pos c1, if_pos c2, rd133, hw.out, w1.out, w2.out, w3.out]; have hm : (L133 r).1 = r.f0 ∧ (L133 r).2 = r.f1 := ⟨rfl, rfl⟩; by_cases d1 : x < r.f0
  ·simp only [if_pos d1]; have : ¬ memB ((r :: t).map L133) x = true := fun h => by
    rcases mem_cons.1 (memB_iff.1 h) with h | h
    ·have := h.1; simp only [hm.1] at this; omega
    ·have := ValidFrom.gt hv.2.2.2.2 h; simp only [hm.2] at this; omega
   rw [if_neg this]; exact evNow _
  by_cases d2 : x ≤ r.f1
  ·have w4 : Aside0 (wrap64 (acc + x) = acc + x) := Aside0.mk (w64 (by omega) (by omega)); have w5 : Aside0 (wrap64 (acc + x - r.f0) = acc + x - r.f0) := Aside0.mk (w64 (by omega) (by omega)); simp only [if_neg d1, if_pos d2, w4.out, w5.out]; have h : memB ((r :: t).map L133) x = true := memB_iff.2 (mem_cons.2 (.inl ⟨by simp only [hm.1]; omega, by simp only [hm.2]; omega⟩)); have hc := cd_in_first (x := x) (show ValidFrom top last (L133 r :: t.map L133) from hv) (by simp only [hm.1]; omega) (by simp only [hm.2]; omega); rw [if_pos h, List.map_cons, hc, hm.1, show acc + (x - r.f0) = acc + x - r.f0 by omega]; exact evNow _
  ·simp only [if_neg d1, if_neg d2]; have hc := cd_past_first (x := x) (show ValidFrom top last (L133 r :: t.map L133) from hv) (by simp only [hm.2]; omega); have e2 : memB ((r :: t).map L133) x = memB (t.map L133) x := memB_eq ⟨fun h => by
    rcases mem_cons.1 h with h | h
    ·have := h.2; simp only [hm.2] at this; omega
    ·exact h, fun h => mem_cons.2 (.inr h)⟩
   have e3 : acc + (cd (memB ((r :: t).map L133)) x.toNat : Int) = acc + (r.f1 - r.f0 + 1) + (cd (memB (t.map L133)) x.toNat : Int) := by rw [List.map_cons, hc, hm.1, hm.2]; omega
   rw [e2, e3]; exact ih
theorem valid_top {top : Int} {l : List Run} (hv : ValidFrom top (-2) l) (ht : top ≤ 1073741823) : size l ≤ 4294967296 := by
 cases l with
 | nil => simp [size_nil]
 | cons r t => have := hv.1; have := hv.2.1; have := hv.2.2.1; have := size_le hv (by omega); omega
theorem rank_is (top : Int) (ht : top ≤ 1073741823) (l : List S133) (x : Int) (hx : (Lit.int .i64 x).wf = true) (hl : l.length ≤ 8796093022206) (hv : ValidFrom top (-2) (l.map L133)) : Ev (fun k => sets_Rank.f k l x) (rankL (l.map L133) x) := by
 have h := rank_loop l.length hl top ht x hx l [] (-2) 0 (by simp) hv (by omega) (by have := valid_top hv ht; omega); simpa [sets_Rank.f, rankL] using h
def Sel (l : List Run) (k : Int) (r : Int × Bool) : Prop := (∃ x, Mem l x ∧ (cd (memB l) x.toNat : Int) = k ∧ r = (x, true)) ∨ ((k < 0 ∨ size l ≤ k) ∧ r = (0, false))
theorem Sel.uniq {top : Int} {l : List Run} (hv : ValidFrom top (-2) l) {k : Int} {r q : Int × Bool} (h : Sel l k r) (h' : Sel l k q) : r = q := by
 have lt : ∀ x, Mem l x → (cd (memB l) x.toNat : Int) < size l := fun x hx => by
  have hr := hv.range hx; have := cd_size (n := top.toNat + 1) hv (by omega); have e : ((x.toNat : Nat) : Int) = x := Int.toNat_of_nonneg hr.1; have := cd_lt (memB l) (m := x.toNat) (n := top.toNat + 1) (by omega) (by rw [e]; exact memB_iff.2 hx); omega
 rcases h with ⟨x, hx, hk, rfl⟩ | ⟨hk, rfl⟩ <;> rcases h' with ⟨y, hy, hk', rfl⟩ | ⟨hk', rfl⟩
 ·have ex : ((x.toNat : Nat) : Int) = x := Int.toNat_of_nonneg (hv.range hx).1; have ey : ((y.toNat : Nat) : Int) = y := Int.toNat_of_nonneg (hv.range hy).1; have := cd_inj (memB l) (m := x.toNat) (n := y.toNat) (by rw [ex]; exact memB_iff.2 hx) (by rw [ey]; exact memB_iff.2 hy) (by omega); rw [show x = y by omega]
 ·have := lt x hx; omega
 ·have := lt y hy; omega
 ·rfl
theorem select_loop (N : Nat) (hN : N ≤ 8796093022206) (top : Int) (ht : top ≤ 1073741823) : ∀ (t pre : List S133) (last kk : Int), (pre ++ t).length ≤ N → ValidFrom top last (t.map L133) → 0 ≤ kk → kk ≤ 9223372036854775807 →
 ∃ r, Ev (fun k => sets_Select.l0 k kk (pre ++ t) (((pre ++ t).length : Nat) : Int) (pre.length : Int)) r ∧ Sel (t.map L133) kk r
 | [], pre, last, kk, _, _, h0, _ => by
  refine ⟨(0, false), evSucc ?_, .inr ⟨.inr (by simpa [size_nil] using h0), rfl⟩⟩; simp only [sets_Select.l0]; rw [List.append_nil]; simp only [if_neg (show ¬ ((pre.length : Nat) : Int) < ((pre.length : Nat) : Int) by omega)]; exact evNow _
 | r :: t, pre, last, kk, hl, hv, h0, h1 => by
  have hlc := len_cons pre r t; have v0 : 0 ≤ r.f0 := hv.1; have v1 : r.f0 ≤ r.f1 := hv.2.1; have v2 : r.f1 ≤ top := hv.2.2.1; have hm : (L133 r).1 = r.f0 ∧ (L133 r).2 = r.f1 := ⟨rfl, rfl⟩; have hw : Aside0 (wrap64 ((pre.length : Int) + 1) = (pre.length : Int) + 1) := Aside0.mk (w64 (by omega) (by simp at hl; omega)); have c1 : (pre.length : Int) < ((pre ++ r :: t).length : Nat) := by rw [hlc]; omega
  have c2 : (0 : Int) ≤ pre.length := by omega
  have w1 : Aside0 (wrap64 (r.f1 - r.f0) = r.f1 - r.f0) := Aside0.mk (w64 (by omega) (by omega)); have w2 : Aside0 (wrap64 (r.f1 - r.f0 + 1) = r.f1 - r.f0 + 1) := Aside0.mk (w64 (by omega) (by omega)); by_cases d1 : kk ≤ r.f1 - r.f0
  ·have w3 : Aside0 (wrap64 (r.f0 + kk) = r.f0 + kk) := Aside0.mk (w64 (by omega) (by omega)); refine ⟨(r.f0 + kk, true), evSucc ?_, .inl ⟨r.f0 + kk, mem_cons.2 (.inl ⟨by simp only [hm.1]; omega, by simp only [hm.2]; omega⟩), ?_, rfl⟩⟩
   ·simp only [sets_Select.l0, if_pos c1, if_pos c2, rd133, hw.out, w1.out, w2.out, w3.out, if_pos d1]; exact evNow _
   ·have hc := cd_in_first (x := r.f0 + kk) (show ValidFrom top last (L133 r :: t.map L133) from hv) (by simp only [hm.1]; omega) (by simp only [hm.2]; omega); rw [List.map_cons, hc, hm.1]; omega
  ·have w3 : Aside0 (wrap64 (kk - (r.f1 - r.f0 + 1)) = kk - (r.f1 - r.f0 + 1)) := Aside0.mk (w64 (by omega) (by omega)); obtain ⟨q, hq, hs⟩ := select_loop N hN top ht t (pre ++ [r]) r.f1 (kk - (r.f1 - r.f0 + 1)) (by rw [app_snoc]; exact hl) hv.2.2.2.2 (by omega) (by omega); rw [app_snoc, snoc_len] at hq; refine ⟨q, evSucc ?_, ?_⟩
   ·simp only [sets_Select.l0, if_pos c1, if_pos c2, rd133, hw.out, w1.out, w2.out, w3.out, if_neg d1]; exact hq
   ·rcases hs with ⟨x, hx, hk, rfl⟩ | ⟨hk, rfl⟩
    ·have hg := ValidFrom.gt hv.2.2.2.2 hx; rw [hm.2] at hg; refine .inl ⟨x, mem_cons.2 (.inr hx), ?_, rfl⟩; have hc := cd_past_first (x := x) (show ValidFrom top last (L133 r :: t.map L133) from hv) (by simp only [hm.2]; omega); rw [List.map_cons, hc, hk, hm.1, hm.2]; omega
    ·have e1 : size ((r :: t).map L133) = (r.f1 - r.f0 + 1) + size (t.map L133) := size_cons _ _; exact .inr ⟨.inr (by omega), rfl⟩
theorem select_is (top : Int) (ht : top ≤ 1073741823) (l : List S133) (kk : Int) (hk : (Lit.int .i64 kk).wf = true) (hl : l.length ≤ 8796093022206) (hv : ValidFrom top (-2) (l.map L133)) : ∃ r, Ev (fun k => sets_Select.f k l kk) r ∧ Sel (l.map L133) kk r := by
 by_cases h0 : kk < 0
 ·exact ⟨(0, false), by simp only [sets_Select.f, if_pos h0]; exact evNow _, .inr ⟨.inl h0, rfl⟩⟩
 ·have hb := bounds_i64 hk; obtain ⟨r, hr, hs⟩ := select_loop l.length hl top ht l [] (-2) kk (by simp) hv (by omega) (by omega); exact ⟨r, by simp only [sets_Select.f, if_neg h0]; simpa using hr, hs⟩
theorem mx_eq (a b : Int) : mx a b = max a b := by unfold mx; omega
theorem mn_eq (a b : Int) : mn a b = min a b := by unfold mn; omega
theorem norm_loop (N : Nat) (hN : N ≤ 8796093022206) (top : Int) (ht : top ≤ 1073741823) : ∀ (t pre o : List S133) (q : S133), (pre ++ t).length ≤ N → o.length + t.length + 1 ≤ N → (∀ r ∈ t, q.f0 ≤ r.f0) → t.Pairwise (fun x y => x.f0 ≤ y.f0) → (∀ r ∈ q :: t, 0 ≤ r.f0 ∧ r.f0 ≤ r.f1 ∧ r.f1 ≤ top) →
 ∃ m, Ev (fun k => sets_Norm.l0 k (pre ++ t) (o ++ [q]) (((pre ++ t).length : Nat) : Int) (pre.length : Int)) (o ++ m, pre ++ t) ∧ m.length ≤ t.length + 1 ∧ (∀ last, last < q.f0 - 1 → ValidFrom top last (m.map L133)) ∧ ∀ x, Mem (m.map L133) x ↔ Mem ((q :: t).map L133) x
 | [], pre, o, q, _, _, _, _, hr => by
  have hq := hr q List.mem_cons_self; refine ⟨[q], evSucc ?_, by simp, fun last hlast => ⟨hq.1, hq.2.1, hq.2.2, hlast, trivial⟩, fun x => Iff.rfl⟩; simp only [sets_Norm.l0]; rw [List.append_nil]; simp only [if_neg (show ¬ ((pre.length : Nat) : Int) < ((pre.length : Nat) : Int) by omega)]; exact evNow _
 | r :: t, pre, o, q, hl, ho, hs, hp, hr => by
  have hq := hr q List.mem_cons_self; have hr1 := hr r (List.mem_cons_of_mem _ List.mem_cons_self); have hqr := hs r List.mem_cons_self; have hp' := List.pairwise_cons.1 hp; have hlc := len_cons pre r t; have hw : Aside0 (wrap64 ((pre.length : Int) + 1) = (pre.length : Int) + 1) := Aside0.mk (w64 (by omega) (by simp at hl; omega)); have c1 : (pre.length : Int) < ((pre ++ r :: t).length : Nat) := by rw [hlc]; omega
  have c2 : (0 : Int) ≤ pre.length := by omega
  have ol : (((o ++ [q]).length : Nat) : Int) = (o.length : Int) + 1 := snoc_len o q; have hob : (o.length : Int) ≤ 8796093022207 := by omega
  have c3 : (((o ++ [q]).length : Nat) : Int) > 0 := by omega
  have w1 : Aside0 (wrap64 ((((o ++ [q]).length : Nat) : Int) - 1) = (o.length : Int)) := Aside0.mk (by rw [ol, w64 (by omega) (by omega)]; omega); have c4 : (0 : Int) ≤ (o.length : Int) := by omega
  have c5 : (o.length : Int) < (((o ++ [q]).length : Nat) : Int) := by omega
  have r1 : rd_T133 (o ++ [q]) (o.length : Int) = q := rd133 o q []; have w2 : Aside0 (wrap64 (q.f1 + 1) = q.f1 + 1) := Aside0.mk (w64 (by omega) (by omega)); have hlt : (o ++ [q]).length < 8796093022208 := by simp at ho ⊢; omega
  by_cases d : r.f0 ≤ q.f1 + 1
  ·obtain ⟨m, g1, g2, g3, g4⟩ := norm_loop N hN top ht t (pre ++ [r]) o ⟨q.f0, max q.f1 r.f1⟩ (by rw [app_snoc]; exact hl) (by simp at ho ⊢; omega) (fun z hz => Int.le_trans hqr (hp'.1 z hz)) hp'.2 (fun z hz => by
    rcases List.mem_cons.1 hz with rfl | hz
    ·exact ⟨hq.1, by show q.f0 ≤ max q.f1 r.f1; omega, by show max q.f1 r.f1 ≤ top; omega⟩
    ·exact hr z (List.mem_cons_of_mem _ (List.mem_cons_of_mem _ hz)))
   rw [app_snoc, snoc_len] at g1; refine ⟨m, evSucc ?_, by simp; omega, g3, fun x => ?_⟩
   ·simp only [sets_Norm.l0, if_pos c1, if_pos c2, rd133, hw.out, if_pos c3, w1.out, if_pos c4, if_pos c5, r1, w2.out, if_pos d, mx_eq]; have : (o ++ [q]).set (o.length : Int).toNat (⟨q.f0, max q.f1 r.f1⟩ : S133) = o ++ [⟨q.f0, max q.f1 r.f1⟩] := by simp
    rw [this]; exact g1
   ·rw [g4 x]; simp only [List.map_cons, mem_cons]; show (q.f0 ≤ x ∧ x ≤ max q.f1 r.f1) ∨ _ ↔ (q.f0 ≤ x ∧ x ≤ q.f1) ∨ (r.f0 ≤ x ∧ x ≤ r.f1) ∨ _; constructor
    ·rintro (h | h)
     ·by_cases e : x ≤ q.f1
      ·exact .inl (by omega)
      ·exact .inr (.inl (by omega))
     ·exact .inr (.inr h)
    ·rintro (h | h | h)
     ·exact .inl (by omega)
     ·exact .inl (by omega)
     ·exact .inr h
  ·obtain ⟨m, g1, g2, g3, g4⟩ := norm_loop N hN top ht t (pre ++ [r]) (o ++ [q]) r (by rw [app_snoc]; exact hl) (by simp at ho ⊢; omega) hp'.1 hp'.2 (fun z hz => hr z (List.mem_cons_of_mem _ hz)); rw [app_snoc, snoc_len] at g1; refine ⟨q :: m, evSucc ?_, by simp; omega, fun last hlast => ⟨hq.1, hq.2.1, hq.2.2, hlast, g3 _ (by show q.f1 < _; omega)⟩, fun x => ?_⟩
   ·simp only [sets_Norm.l0, if_pos c1, if_pos c2, rd133, hw.out, if_pos c3, w1.out, if_pos c4, if_pos c5, r1, w2.out, if_neg d, if_pos hlt]; simpa using g1
   ·rw [List.map_cons, mem_cons, g4 x]; exact mem_cons.symm
theorem norm_is (top : Int) (ht : top ≤ 1073741823) (l : List S133) (hl : l.length ≤ 8796093022206) (hr : ∀ r ∈ l, 0 ≤ r.f0 ∧ r.f0 ≤ r.f1 ∧ r.f1 ≤ top) :
 ∃ m s, Ev (fun k => sets_Norm.f k l) (m, s) ∧ m.length ≤ l.length ∧ ValidFrom top (-2) (m.map L133) ∧ ∀ x, Mem (m.map L133) x ↔ Mem (l.map L133) x := by
 obtain ⟨s, hs⟩ : ∃ s, sortRun.f l = some s := ⟨_, by unfold sortRun.f; rw [if_pos (show l.length < 8796093022208 by omega)]⟩
 obtain ⟨hp, hsort⟩ := sortRun.spec l s hs; have hlen := hp.length_eq; have hmem : ∀ x, Mem (s.map L133) x ↔ Mem (l.map L133) x := fun x => mem_perm (hp.map _)
 cases s with
 | nil =>
  refine ⟨[], [], ?_, by simp, trivial, hmem⟩; simp only [sets_Norm.f, hs, Option.bind_some]; refine evSucc ?_; simp only [sets_Norm.l0, ← hlen]; simp only [List.length_nil, if_neg (show ¬ (0 : Int) < ((0 : Nat) : Int) by omega)]; exact evNow _
 | cons q t =>
  have hr' : ∀ r ∈ q :: t, 0 ≤ r.f0 ∧ r.f0 ≤ r.f1 ∧ r.f1 ≤ top := fun r h => hr r (hp.mem_iff.1 h)
  have hsp := List.pairwise_cons.1 hsort; obtain ⟨m, g1, g2, g3, g4⟩ := norm_loop (q :: t).length (by omega) top ht t [q] [] q (by simp) (by simp) hsp.1 hsp.2 hr'; have hq := hr' q List.mem_cons_self; refine ⟨m, q :: t, ?_, by rw [← hlen]; simpa using g2, g3 _ (by omega), fun x => (g4 x).trans (hmem x)⟩; simp only [sets_Norm.f, hs, Option.bind_some, ← hlen]; refine evSucc ?_; have c1 : (0 : Int) < (((q :: t).length : Nat) : Int) := by rw [List.length_cons]; omega
  have r1 : rd_T133 (q :: t) 0 = q := rfl; have hw : Aside0 (wrap64 ((0 : Int) + 1) = 1) := Aside0.mk (by rw [w64 (by omega) (by omega)]; rfl); simp only [sets_Norm.l0, if_pos c1, if_pos (show (0 : Int) ≤ 0 by omega), r1, List.length_nil, if_neg (show ¬ ((0 : Nat) : Int) > 0 by omega), if_pos (show (0 : Nat) < 8796093022208 from Nat.zero_lt_succ _), hw.out]; exact g1
def setL (top : Int) (l : List Run) : List Run := if validB top (-2) l = true then l else []
theorem setL_valid (top : Int) (l : List Run) : ValidFrom top (-2) (setL top l) := by
 unfold setL; split
 ·rename_i h; exact (validB_iff _ _ _).1 h
 ·trivial
theorem setL_of {top : Int} {l : List Run} (h : ValidFrom top (-2) l) : setL top l = l := by unfold setL; rw [if_pos ((validB_iff _ _ _).2 h)]
theorem valid_len {top : Int} : ∀ {l : List Run} {last : Int}, ValidFrom top last l → (l.length : Int) ≤ size l
 | [], _, _ => by simp [size_nil]
 | r :: t, _, hv => by
  have := valid_len hv.2.2.2.2; have := hv.2.1; rw [size_cons]; simp; omega
theorem valid_len' {top : Int} {l : List Run} {last : Int} (hv : ValidFrom top last l) (h0 : 0 ≤ top) (ht : top ≤ 1073741823) : l.length ≤ 1073741824 := by
 have := valid_len hv; have := size_le hv h0; omega
theorem scalars_set_is (l : List S43) (hl : l.length * 16 ≤ 140737488351232) : ∃ s, Ev (fun k => scalars_set.f k l) s ∧ s.map L133 = setL 1073741823 (l.map L43) := by
 have h1 := api_Range_is l hl; have h2 := valid_is 1073741823 (by omega) (l.map api_Range_c) (by simp; omega); rw [api_Range_len] at h2; by_cases d : validB 1073741823 (-2) (l.map L43) = true
 ·refine ⟨l.map api_Range_c, Ev.bind h1 (Ev.bind h2 ?_), by rw [api_Range_len]; unfold setL; rw [if_pos d]⟩; simp only [if_pos d]; exact evNow _
 ·refine ⟨[], Ev.bind h1 (Ev.bind h2 ?_), by unfold setL; rw [if_neg d]; rfl⟩; simp only [if_neg d]; exact evNow _
theorem scalars_back_is (l : List S133) (hl : l.length * 16 ≤ 140737488351232) : Ev (fun k => scalars_back.f k l) (l.map sets_Run_135_c) := Ev.bind (sets_Run_135_is l hl) (evNow _)
theorem scalars_set_facts {l : List S43} {s : List S133} (h : s.map L133 = setL 1073741823 (l.map L43)) : ValidFrom 1073741823 (-2) (s.map L133) ∧ s.length ≤ 1073741824 := by
 have hv : ValidFrom 1073741823 (-2) (s.map L133) := by rw [h]; exact setL_valid _ _
 have := valid_len' hv (by omega) (by omega); exact ⟨hv, by simpa using this⟩
def scalars_IsSet (l : List S43) (p : Int → Prop) : Prop := ValidFrom 1073741823 (-2) (l.map L43) ∧ l.length ≤ 1073741824 ∧ ∀ x, Mem (l.map L43) x ↔ p x
theorem scalars_IsSet.uniq {a b : List S43} {p q : Int → Prop} (ha : scalars_IsSet a p) (hb : scalars_IsSet b q) (h : ∀ x, p x ↔ q x) : a = b :=
 L43_inj (canon 1073741823 _ _ _ _ ha.1 hb.1 fun x => (ha.2.2 x).trans ((h x).trans (hb.2.2 x).symm))
theorem scalars_out {m : List S133} {p : Int → Prop} (hv : ValidFrom 1073741823 (-2) (m.map L133)) (hm : ∀ x, Mem (m.map L133) x ↔ p x) : ∃ r, Ev (fun k => scalars_back.f k m) r ∧ scalars_IsSet r p := by
 have hn := valid_len' hv (by omega) (by omega); have e := sets_Run_135_len m; refine ⟨_, scalars_back_is m (by simp at hn; omega), ?_, ?_, fun x => ?_⟩
 ·rw [e]; exact hv
 ·simpa using hn
 ·rw [e]; exact hm x
end Go.Proofs.Ytoljcfocgaonpaa.PB4
end
section
namespace Go.Proofs.Ytoljcfocgaonpaa.PB4
open Go.RowKit Go.Proofs.YtoljcfocgaonpaaW.PrintWords Go.Proofs.YtoljcfocgaonpaaW.PrintLast Go.Proofs.YtoljcfocgaonpaaW.PrintMore Go.Proofs.Ytoljcfocgaonpaa.I Go.Proofs.LT
set_option linter.unusedVariables false
set_option linter.unusedSimpArgs false
theorem meet_loop (N : Nat) (hN : N ≤ 8796093022206) (top : Int) (ht : top ≤ 1073741823) : ∀ (n : Nat) (a b out : List S133) (la lb : Int), a.length + b.length = n → out.length + a.length + b.length ≤ N → ValidFrom top la (a.map L133) → ValidFrom top lb (b.map L133) →
 ∃ m, Ev (fun k => sets_Meet.l0 k a b out) (out ++ m) ∧ m.length ≤ a.length + b.length ∧ ValidFrom top (max la lb) (m.map L133) ∧ ∀ x, Mem (m.map L133) x ↔ Mem (a.map L133) x ∧ Mem (b.map L133) x
 | n, [], b, out, la, lb, _, _, _, _ => by
  refine ⟨[], evSucc (evSucc ?_), by simp, trivial, fun x => ⟨fun h => (Mem.nil h).elim, fun h => (Mem.nil h.1).elim⟩⟩; simp only [sets_Meet.l0, List.length_nil]; simp only [if_neg (show ¬ ((0 : Nat) : Int) > 0 by omega), sets_Meet.j1]; simpa using evNow out
 | n, x :: a, [], out, la, lb, _, _, _, _ => by
  refine ⟨[], evSucc (evSucc ?_), by simp, trivial, fun x => ⟨fun h => (Mem.nil h).elim, fun h => (Mem.nil h.2).elim⟩⟩; simp only [sets_Meet.l0, List.length_nil, List.length_cons]; simp only [if_pos (show ((a.length + 1 : Nat) : Int) > 0 by omega), show decide (((0 : Nat) : Int) > 0) = false by decide, sets_Meet.j1]; simpa using evNow out
 | n, x :: a, y :: b, out, la, lb, hn, hl, ha, hb => by
  obtain ⟨a0, a1, a2, a3, a4⟩ := ha; obtain ⟨b0, b1, b2, b3, b4⟩ := hb; have ex : (L133 x).1 = x.f0 ∧ (L133 x).2 = x.f1 := ⟨rfl, rfl⟩; have ey : (L133 y).1 = y.f0 ∧ (L133 y).2 = y.f1 := ⟨rfl, rfl⟩; have c1 : ((((x :: a).length : Nat) : Int) > 0) := by rw [List.length_cons]; omega
  have c2 : decide ((((y :: b).length : Nat) : Int) > 0) = true := by rw [List.length_cons]; exact decide_eq_true (by omega)
  have c3 : (0 : Int) < (((x :: a).length : Nat) : Int) := c1; have c4 : (0 : Int) < (((y :: b).length : Nat) : Int) := by rw [List.length_cons]; omega
  have c5 : (1 : Int) ≤ (((x :: a).length : Nat) : Int) := by omega
  have c6 : (1 : Int) ≤ (((y :: b).length : Nat) : Int) := by omega
  have r1 : rd_T133 (x :: a) 0 = x := rfl; have r2 : rd_T133 (y :: b) 0 = y := rfl; have hlo : out.length < 8796093022208 := by simp at hl; omega
  simp only [ex.1, ex.2, ey.1, ey.2] at a0 a1 a2 a3 b0 b1 b2 b3; have main : ∀ (out' : List S133) (n' : Nat), out'.length + a.length + b.length + 1 ≤ N →
   ∃ m, Ev (fun k => if x.f1 < y.f1 then (if (1 : Int) ≤ (((x :: a).length : Nat) : Int) then sets_Meet.l0 k ((x :: a).drop 1) (y :: b) out' else none) else (if (1 : Int) ≤ (((y :: b).length : Nat) : Int) then sets_Meet.l0 k (x :: a) ((y :: b).drop 1) out' else none)) (out' ++ m) ∧ m.length ≤ a.length + b.length + 1 ∧ ValidFrom top (if x.f1 < y.f1 then max x.f1 lb else max la y.f1) (m.map L133) ∧
    ∀ z, Mem (m.map L133) z ↔ (if x.f1 < y.f1 then Mem (a.map L133) z ∧ Mem ((y :: b).map L133) z else Mem ((x :: a).map L133) z ∧ Mem (b.map L133) z) := fun out' n' hl' => by
   by_cases d : x.f1 < y.f1
   ·obtain ⟨m, h1, h2, h3, h4⟩ := meet_loop N hN top ht (a.length + (y :: b).length) a (y :: b) out' x.f1 lb rfl (by simp; omega) a4 ⟨b0, b1, b2, b3, b4⟩; refine ⟨m, ?_, by simp at h2; omega, by rw [if_pos d]; exact h3, fun z => by rw [if_pos d]; exact h4 z⟩; simp only [if_pos d, if_pos c5, List.drop_one, List.tail_cons]; exact h1
   ·obtain ⟨m, h1, h2, h3, h4⟩ := meet_loop N hN top ht ((x :: a).length + b.length) (x :: a) b out' la y.f1 rfl (by simp; omega) ⟨a0, a1, a2, a3, a4⟩ b4; refine ⟨m, ?_, by simp at h2; omega, by rw [if_neg d]; exact h3, fun z => by rw [if_neg d]; exact h4 z⟩; simp only [if_neg d, if_pos c6, List.drop_one, List.tail_cons]; exact h1
  by_cases d0 : max x.f0 y.f0 ≤ min x.f1 y.f1
  ·obtain ⟨m, h1, h2, h3, h4⟩ := main (out ++ [⟨max x.f0 y.f0, min x.f1 y.f1⟩]) 0 (by simp at hl ⊢; omega); refine ⟨⟨max x.f0 y.f0, min x.f1 y.f1⟩ :: m, evSucc (evSucc ?_), by simp; omega, ?_, fun z => ?_⟩
   ·simp only [sets_Meet.l0, if_pos c1, c2, sets_Meet.j1, if_true, if_pos c3, if_pos c4, r1, r2, mx_eq, mn_eq, if_pos d0, if_pos hlo, Option.bind_some]; simpa using h1
   ·refine ⟨?_, ?_, ?_, ?_, ?_⟩
    ·show 0 ≤ max x.f0 y.f0; omega
    ·exact d0
    ·show min x.f1 y.f1 ≤ top; omega
    ·show max la lb < max x.f0 y.f0 - 1; omega
    ·refine ValidFrom.mono ?_ h3; show min x.f1 y.f1 ≤ _; split <;> omega
   ·rw [List.map_cons, mem_cons, h4 z]; have e : (L133 ⟨max x.f0 y.f0, min x.f1 y.f1⟩).1 = max x.f0 y.f0 ∧ (L133 ⟨max x.f0 y.f0, min x.f1 y.f1⟩).2 = min x.f1 y.f1 := ⟨rfl, rfl⟩; rw [e.1, e.2]; have ga : ∀ z, Mem (a.map L133) z → x.f1 + 1 < z := fun z h => ValidFrom.gt a4 h
    have gb : ∀ z, Mem (b.map L133) z → y.f1 + 1 < z := fun z h => ValidFrom.gt b4 h
    simp only [List.map_cons, mem_cons, ex.1, ex.2, ey.1, ey.2]; by_cases d : x.f1 < y.f1
    ·simp only [if_pos d]; constructor
     ·rintro (h | ⟨h, h'⟩)
      ·exact ⟨.inl (by omega), .inl (by omega)⟩
      ·exact ⟨.inr h, h'⟩
     ·rintro ⟨h | h, h'⟩
      ·rcases h' with h' | h'
       ·exact .inl (by omega)
       ·have := gb z h'; omega
      ·exact .inr ⟨h, h'⟩
    ·simp only [if_neg d]; constructor
     ·rintro (h | ⟨h, h'⟩)
      ·exact ⟨.inl (by omega), .inl (by omega)⟩
      ·exact ⟨h, .inr h'⟩
     ·rintro ⟨h, h' | h'⟩
      ·rcases h with h | h
       ·exact .inl (by omega)
       ·have := ga z h; omega
      ·exact .inr ⟨h, h'⟩
  ·obtain ⟨m, h1, h2, h3, h4⟩ := main out 0 (by simp at hl; omega); refine ⟨m, evSucc (evSucc ?_), by simp; omega, ?_, fun z => ?_⟩
   ·simp only [sets_Meet.l0, if_pos c1, c2, sets_Meet.j1, if_true, if_pos c3, if_pos c4, r1, r2, mx_eq, mn_eq, if_neg d0]; exact h1
   ·refine ValidFrom.mono ?_ h3; split <;> omega
   ·rw [h4 z]; have ga : ∀ z, Mem (a.map L133) z → x.f1 + 1 < z := fun z h => ValidFrom.gt a4 h
    have gb : ∀ z, Mem (b.map L133) z → y.f1 + 1 < z := fun z h => ValidFrom.gt b4 h
    simp only [List.map_cons, mem_cons, ex.1, ex.2, ey.1, ey.2]; by_cases d : x.f1 < y.f1
    ·simp only [if_pos d]; constructor
     ·rintro ⟨h, h'⟩; exact ⟨.inr h, h'⟩
     ·rintro ⟨h | h, h'⟩
      ·rcases h' with h' | h'
       ·omega
       ·have := gb z h'; omega
      ·exact ⟨h, h'⟩
    ·simp only [if_neg d]; constructor
     ·rintro ⟨h, h'⟩; exact ⟨h, .inr h'⟩
     ·rintro ⟨h, h' | h'⟩
      ·rcases h with h | h
       ·omega
       ·have := ga z h; omega
      ·exact ⟨h, h'⟩
termination_by n a b => a.length + b.length
theorem meet_is (top : Int) (ht : top ≤ 1073741823) (a b : List S133) (hl : a.length + b.length ≤ 8796093022206) (ha : ValidFrom top (-2) (a.map L133)) (hb : ValidFrom top (-2) (b.map L133)) :
 ∃ m, Ev (fun k => sets_Meet.f k a b) m ∧ m.length ≤ a.length + b.length ∧ ValidFrom top (-2) (m.map L133) ∧ ∀ x, Mem (m.map L133) x ↔ Mem (a.map L133) x ∧ Mem (b.map L133) x := by
 obtain ⟨m, h1, h2, h3, h4⟩ := meet_loop (a.length + b.length) hl top ht _ a b [] (-2) (-2) rfl (by simp) ha hb; exact ⟨m, by simpa [sets_Meet.f] using h1, h2, by simpa using h3, h4⟩
theorem scalars_Union_is (a b : List S43) (ha : a.length * 16 ≤ 140737488351232) (hb : b.length * 16 ≤ 140737488351232) : ∃ r, Ev (fun k => scalars_Union.f k a b) r ∧ scalars_IsSet r (fun x => Mem (setL 1073741823 (a.map L43)) x ∨ Mem (setL 1073741823 (b.map L43)) x) := by
 obtain ⟨s, h1, h2⟩ := scalars_set_is a ha; obtain ⟨hv, hn⟩ := scalars_set_facts h2; obtain ⟨t, g1, g2⟩ := scalars_set_is b hb; obtain ⟨gv, gn⟩ := scalars_set_facts g2; obtain ⟨m, w, k1, k2, k3, k4⟩ := norm_is 1073741823 (by omega) (s ++ t) (by simp; omega) (fun r hr => by
  rcases List.mem_append.1 hr with hr | hr
  ·exact hv.each (L133 r) (List.mem_map.2 ⟨r, hr, rfl⟩)
  ·exact gv.each (L133 r) (List.mem_map.2 ⟨r, hr, rfl⟩))
 obtain ⟨r, q1, q2⟩ := scalars_out (p := fun x => Mem (setL 1073741823 (a.map L43)) x ∨ Mem (setL 1073741823 (b.map L43)) x) k3 (fun x => by rw [k4 x, List.map_append, mem_append, h2, g2]); refine ⟨r, Ev.bind h1 (Ev.bind g1 ?_), q2⟩; simp only [if_pos (show s.length + t.length < 8796093022208 by omega)]; exact Ev.bind k1 (Ev.bind q1 (evNow _))
theorem scalars_Meet_is (a b : List S43) (ha : a.length * 16 ≤ 140737488351232) (hb : b.length * 16 ≤ 140737488351232) : ∃ r, Ev (fun k => scalars_Meet.f k a b) r ∧ scalars_IsSet r (fun x => Mem (setL 1073741823 (a.map L43)) x ∧ Mem (setL 1073741823 (b.map L43)) x) := by
 obtain ⟨s, h1, h2⟩ := scalars_set_is a ha; obtain ⟨hv, hn⟩ := scalars_set_facts h2; obtain ⟨t, g1, g2⟩ := scalars_set_is b hb; obtain ⟨gv, gn⟩ := scalars_set_facts g2; obtain ⟨m, k1, k2, k3, k4⟩ := meet_is 1073741823 (by omega) s t (by omega) hv gv; obtain ⟨r, q1, q2⟩ := scalars_out (p := fun x => Mem (setL 1073741823 (a.map L43)) x ∧ Mem (setL 1073741823 (b.map L43)) x) k3 (fun x => by rw [k4 x, h2, g2]); exact ⟨r, Ev.bind h1 (Ev.bind g1 (Ev.bind k1 (Ev.bind q1 (evNow _)))), q2⟩
end Go.Proofs.Ytoljcfocgaonpaa.PB4
end
