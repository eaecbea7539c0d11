/- Words and laws of this claim, of 5 texts. -/
import Derived.Test.YtoljcfocgaonpaaKgQP1
import Derived.Test.YtoljcfocgaonpaaKgIx34
import Derived.Test.YtoljcfocgaonpaaKgIx35
import Derived.RangeFuncNested
import Derived.RangeFuncBound
import Derived.RangeFuncCalls
import Derived.RangeFuncLeaves
import Derived.Shelf.Abstract
import Derived.Shelf.RegionOpen
import Derived.WalkKit
import Derived.OwnWalkIn
import Derived.TacticsInMore
import Derived.LoopNIn
import Derived.LoopIn
import Derived.Maps.OwnIn
import Derived.Test.YtoljcfocgaonpaaKgIx0
import Derived.Test.YtoljcfocgaonpaaKgIx14
import Derived.Test.YtoljcfocgaonpaaKgIx15
import Derived.Test.YtoljcfocgaonpaaKgIx16
import Derived.Test.YtoljcfocgaonpaaKgIx17
import Derived.Test.YtoljcfocgaonpaaKgIx7
import Derived.Test.YtoljcfocgaonpaaKgIx8
import Derived.Test.YtoljcfocgaonpaaKgIx32
import Derived.Test.YtoljcfocgaonpaaKgIx4
import Derived.Test.YtoljcfocgaonpaaKgIx5
import Derived.Test.YtoljcfocgaonpaaKgIx6
import Derived.Test.YtoljcfocgaonpaaKgQP0
import Derived.Test.YtoljcfocgaonpaaKgQW1
import Derived.OpenShut
import Derived.Test.YtoljcfocgaonpaaKgIx13
import Derived.Test.YtoljcfocgaonpaaKgIx23
import Derived.Test.YtoljcfocgaonpaaKgIx12
section
namespace Go.Proofs.Ytoljcfocgaonpaa.I
open Go.RowKit Go.Shelf Go.Proofs.YtoljcfocgaonpaaW.PrintWords Go.Proofs.YtoljcfocgaonpaaW.PrintLast Go.Proofs.YtoljcfocgaonpaaW.PrintMore
set_option linter.unusedVariables false
set_option linter.unusedSimpArgs false
attribute [local go_sem] Oper.semAt_some
theorem info9a : (Try.prog.info? 9).map (fun i => (i.zero, i.size, i.bytes)) = some (some (.string ⟨#[]⟩), 1, 16) := by kernel_rfl
def strS (all : List (Int × List Int)) (n : Nat) : List ByteArray := (all.take n).map fun x => strOfNums x.2
def EnvA (W : World) (b g1 g2 bl : Nat) (A : Option Addr) (m c : Nat) (res y1 : Bool) (y2 y3 : Int) (z1 : Bool) (z2 z3 : Int) (v : Value) : Prop :=
  W.heap[b]? = some (.cells #[.slice A m c] 69 (0, 0)) ∧ W.heap[b + 1]? = some (.cells #[.bool res] 4 (0, 0)) ∧ W.heap[g1]? = some (.cells #[.bool y1, .int .i64 y2, .int .i64 y3] 71 (0, 0)) ∧ W.heap[g2]? = some (.cells #[.bool z1, .int .i64 z2, .int .i64 z3] 71 (0, 0)) ∧ W.heap[bl]? = some (.cells #[v] 92 (0, 0))
theorem EnvA.cells {W : World} {b g1 g2 bl : Nat} {A : Option Addr} {m c : Nat} {res y1 : Bool} {y2 y3 : Int} {z1 : Bool} {z2 z3 : Int} {v : Value} (h : EnvA W b g1 g2 bl A m c res y1 y2 y3 z1 z2 z3 v) : W.cell? ⟨b + 1, 0, none⟩ = some (.bool res) ∧ W.cell? ⟨g1, 0, none⟩ = some (.bool y1) ∧ W.cell? ⟨g2, 0, none⟩ = some (.bool z1) ∧ W.cell? ⟨bl, 0, none⟩ = some v ∧ W.frozen? ⟨b + 1, 0, none⟩ = false ∧ W.frozen? ⟨bl, 0, none⟩ = false :=
  ⟨(blk_cell h.2.1 0).trans rfl, (blk_cell h.2.2.1 0).trans rfl, (blk_cell h.2.2.2.1 0).trans rfl, (blk_cell h.2.2.2.2 0).trans rfl, blk_frozen h.2.1 0, blk_frozen h.2.2.2.2 0⟩
theorem EnvA.moved {W W' : World} {b g1 g2 bl : Nat} {A : Option Addr} {m c : Nat} {res y1 : Bool} {y2 y3 : Int} {z1 : Bool} {z2 z3 : Int} {v : Value} (h : EnvA W b g1 g2 bl A m c res y1 y2 y3 z1 z2 z3 v) (hk : ∀ k o, W.heap[k]? = some o → k ≤ b + 1 ∨ k = g1 ∨ k = g2 ∨ k = bl → W'.heap[k]? = W.heap[k]?) : EnvA W' b g1 g2 bl A m c res y1 y2 y3 z1 z2 z3 v :=
  ⟨(hk _ _ h.1 (by omega)).trans h.1, (hk _ _ h.2.1 (by omega)).trans h.2.1, (hk _ _ h.2.2.1 (by omega)).trans h.2.2.1, (hk _ _ h.2.2.2.1 (by omega)).trans h.2.2.2.1, (hk _ _ h.2.2.2.2 (by omega)).trans h.2.2.2.2⟩
theorem EnvA.below {W W' : World} {b g1 g2 bl : Nat} {A : Option Addr} {m c : Nat} {res y1 : Bool} {y2 y3 : Int} {z1 : Bool} {z2 z3 : Int} {v : Value} (h : EnvA W b g1 g2 bl A m c res y1 y2 y3 z1 z2 z3 v) (hb : Below W.heap.size W W') : EnvA W' b g1 g2 bl A m c res y1 y2 y3 z1 z2 z3 v :=
  ⟨blk_below h.1 hb, blk_below h.2.1 hb, blk_below h.2.2.1 hb, blk_below h.2.2.2.1 hb, blk_below h.2.2.2.2 hb⟩
theorem EnvA.step {W : World} {b g1 g2 bl : Nat} {A : Option Addr} {m c : Nat} {res y1 : Bool} {y2 y3 : Int} {z1 : Bool} {z2 z3 : Int} {v : Value} (h : EnvA W b g1 g2 bl A m c res y1 y2 y3 z1 z2 z3 v) (h1 : b + 1 < g1 ∧ g1 < g2 ∧ g2 < bl) (v' : Value) : EnvA (W.setCell ⟨bl, 0, none⟩ v') b g1 g2 bl A m c res y1 y2 y3 z1 z2 z3 v' :=
  ⟨blk_set_far h.1 (by omega) _, blk_set_far h.2.1 (by omega) _, blk_set_far h.2.2.1 (by omega) _, blk_set_far h.2.2.2.1 (by omega) _, blk_set h.2.2.2.2 _⟩
theorem EnvA.told {W : World} {b g1 g2 bl : Nat} {A : Option Addr} {m c : Nat} {res y1 : Bool} {y2 y3 : Int} {z1 : Bool} {z2 z3 : Int} {v : Value} (h : EnvA W b g1 g2 bl A m c res y1 y2 y3 z1 z2 z3 v) (h1 : b + 1 < g1 ∧ g1 < g2 ∧ g2 < bl) (r : Bool) : EnvA (W.setCell ⟨b + 1, 0, none⟩ (.bool r)) b g1 g2 bl A m c r y1 y2 y3 z1 z2 z3 v :=
  ⟨blk_set_far h.1 (by omega) _, blk_set h.2.1 _, blk_set_far h.2.2.1 (by omega) _, blk_set_far h.2.2.2.1 (by omega) _, blk_set_far h.2.2.2.2 (by omega) _⟩
def InA (W : World) (B b g1 g2 bl : Nat) (A : Option Addr) (m c : Nat) (y1 : Bool) (y2 y3 : Int) (z1 : Bool) (z2 z3 : Int) (all : List (Int × List Int)) (n : Nat) (G : Nat → Prop) : Prop :=
  ∃ v, EnvA W b g1 g2 bl A m c false y1 y2 y3 z1 z2 z3 v ∧ W.ownsRow B 9 1 v n (encs Value.string (strS all n)) ∧ (∀ k, v.ownBlock = some k → ¬ G k)
def EnvAT (W : World) (b g1 g2 bl : Nat) (A : Option Addr) (m c : Nat) (y1 : Bool) (y2 y3 : Int) (z1 : Bool) (z2 z3 : Int) : Prop := ∃ v, EnvA W b g1 g2 bl A m c true y1 y2 y3 z1 z2 z3 v
theorem own_blk {w w1 : World} {base e size n : Nat} {v : Value} {xs : List Value} (h : w.ownsRow base e size v n xs) (hk : ∀ k, v.ownBlock = some k → w1.heap[k]? = w.heap[k]?) : w1.ownsRow base e size v n xs := by
  obtain ⟨h1, h2⟩ := h
  refine ⟨h1, h2.imp id ?_⟩
  rintro ⟨g, cap, cur, he, hb, hr, h3⟩
  exact ⟨g, cap, cur, he, hb, (hk g (by rw [he]; rfl)).trans hr, h3⟩
theorem own_obj {w : World} {base e size n : Nat} {v : Value} {xs : List Value} (h : w.ownsRow base e size v n xs) {k : Nat} (hk : v.ownBlock = some k) {o : Obj} (ho : w.heap[k]? = some o) : o.isCells = true := by
  rcases h.2 with ⟨he, _⟩ | ⟨g, cap, cur, he, _, hr, _⟩
  · rw [he] at hk; cases hk
  · rw [he] at hk
    obtain rfl : g = k := by injection hk
    rw [hr] at ho
    injection ho with ho
    rw [← ho]; rfl
theorem own_form {w : World} {base e size n : Nat} {v : Value} {xs : List Value} (h : w.ownsRow base e size v (n + 1) xs) : ∃ g cap, v = .slice (some ⟨g, 0, none⟩) (n + 1) cap := by
  rcases h.2 with ⟨_, h0⟩ | ⟨g, cap, cur, he, _⟩
  · omega
  · exact ⟨g, cap, he⟩
def hpB (y x : ByteArray) : Bool := (strings_HasPrefix.f y x).getD false
def stepF (x y : ByteArray) (d : Bool) (f : Bool × Bool) : Bool × Bool := (f.1 || (decide ((x.size : Int) < (y.size : Int)) && hpB y x), f.2 || (d && (x.toList == y.toList)))
def fl2 (l : List ByteArray) (x : ByteArray) (j : Nat) (f0 : Bool × Bool) : Nat → Bool × Bool
  | 0 => f0
  | k + 1 => stepF x (rdOf ByteArray.empty l (k : Int)) (decide (j ≠ k)) (fl2 l x j f0 k)
def fl1 (l : List ByteArray) : Nat → Bool × Bool
  | 0 => (false, false)
  | j + 1 => fl2 l (rdOf ByteArray.empty l (j : Int)) j (fl1 l j) l.length
def InP (w W : World) (D b g1 g2 bl : Nat) (A : Option Addr) (m c : Nat) (y1 : Bool) (y2 y3 : Int) (z1 : Bool) (z2 z3 : Int) (A5 : Option Addr) (c5 : Nat) (l : List ByteArray) : Prop :=
  EnvA W b g1 g2 bl A m c false y1 y2 y3 z1 z2 z3 (.slice A5 l.length c5) ∧ Kd.string.C W A5 l.length l ∧ Below w.heap.size w W ∧ W.heap[D]? = some (.deferred (some []))
theorem InP.below {w W W' : World} {D b g1 g2 bl : Nat} {A : Option Addr} {m c : Nat} {y1 : Bool} {y2 y3 : Int} {z1 : Bool} {z2 z3 : Int} {A5 : Option Addr} {c5 : Nat} {l : List ByteArray} (h : InP w W D b g1 g2 bl A m c y1 y2 y3 z1 z2 z3 A5 c5 l) (hb : Below W.heap.size W W') : InP w W' D b g1 g2 bl A m c y1 y2 y3 z1 z2 z3 A5 c5 l :=
  ⟨h.1.below hb, Kd.C_below h.2.1 hb, below_step h.2.2.1 hb, blk_below h.2.2.2 hb⟩
def TMLA (b bl : Nat) (v : Value) (u : Nat → Value) : Array Value :=
  #[u 0, u 1, .pointer (some ⟨b + 1, 0, none⟩), u 3, u 4, u 5, u 6, .pointer (some ⟨bl, 0, none⟩), u 8, v, u 10, u 11, u 12, u 13, u 14, u 15, u 16, u 17, u 18, u 19, u 20, u 21, u 22, u 23, u 24, u 25, u 26, u 27, u 28, u 29, u 30, u 31, u 32, u 33, u 34, u 35, u 36, u 37, u 38, u 39, u 40, u 41, u 42, u 43, u 44, u 45, u 46, u 47, u 48, u 49, u 50, u 51, u 52, u 53, u 54, u 55, u 56, u 57, u 58, u 59, u 60, u 61, u 62, u 63, u 64, u 65, u 66, u 67, u 68, u 69, u 70, u 71, u 72, u 73, u 74, u 75, u 76, u 77, u 78, u 79, u 80, u 81, u 82, u 83, u 84, u 85, u 86, u 87, u 88, u 89, u 90, u 91, u 92, u 93, u 94, u 95, u 96, u 97, u 98, u 99, u 100, u 101, u 102, u 103, u 104, u 105, u 106, u 107, u 108, u 109, u 110]
def TMLP (b g1 g2 bl : Nat) (q e : Bool) (v : Value) (n j : Int) (u : Nat → Value) : Array Value :=
  #[u 0, u 1, .pointer (some ⟨b + 1, 0, none⟩), .pointer (some ⟨g1, 0, none⟩), u 4, .pointer (some ⟨g2, 0, none⟩), u 6, .pointer (some ⟨bl, 0, none⟩), u 8, u 9, .bool q, .bool e, u 12, u 13, u 14, u 15, u 16, u 17, u 18, u 19, u 20, u 21, u 22, u 23, u 24, u 25, u 26, u 27, u 28, u 29, u 30, u 31, u 32, u 33, u 34, u 35, u 36, u 37, u 38, u 39, u 40, u 41, u 42, u 43, u 44, u 45, u 46, u 47, u 48, u 49, u 50, u 51, u 52, u 53, u 54, u 55, u 56, u 57, u 58, v, .int .i64 n, .int .i64 j, u 62, u 63, u 64, u 65, u 66, u 67, u 68, u 69, u 70, u 71, u 72, u 73, u 74, u 75, u 76, u 77, u 78, u 79, u 80, u 81, u 82, u 83, u 84, u 85, u 86, u 87, u 88, u 89, u 90, u 91, u 92, u 93, u 94, u 95, u 96, u 97, u 98, u 99, u 100, u 101, u 102, u 103, u 104, u 105, u 106, u 107, u 108, u 109, u 110]
def TMLQ (b g1 g2 bl : Nat) (q e : Bool) (v : Value) (n j : Int) (x : ByteArray) (k : Int) (u : Nat → Value) : Array Value :=
  #[u 0, u 1, .pointer (some ⟨b + 1, 0, none⟩), .pointer (some ⟨g1, 0, none⟩), u 4, .pointer (some ⟨g2, 0, none⟩), u 6, .pointer (some ⟨bl, 0, none⟩), u 8, u 9, .bool q, .bool e, .int .i64 j, .string x, u 14, u 15, u 16, u 17, u 18, u 19, u 20, u 21, u 22, u 23, u 24, u 25, u 26, u 27, u 28, u 29, u 30, u 31, u 32, u 33, u 34, u 35, u 36, u 37, u 38, u 39, u 40, u 41, u 42, u 43, u 44, u 45, u 46, u 47, u 48, u 49, u 50, u 51, u 52, u 53, u 54, u 55, u 56, u 57, u 58, v, .int .i64 n, .int .i64 j, u 62, u 63, u 64, u 65, v, .int .i64 n, .int .i64 k, u 69, u 70, u 71, u 72, u 73, u 74, u 75, u 76, u 77, u 78, u 79, u 80, u 81, u 82, u 83, u 84, u 85, u 86, u 87, u 88, u 89, u 90, u 91, u 92, u 93, u 94, u 95, u 96, u 97, u 98, u 99, u 100, u 101, u 102, u 103, u 104, u 105, u 106, u 107, u 108, u 109, u 110]
def leftP (a : Act) : Nat := match a.tmps[60]?, a.tmps[61]? with | some (Value.int _ n), some (Value.int _ i) => (n - i).toNat | _, _ => 0
def leftQ (a : Act) : Nat := match a.tmps[67]?, a.tmps[68]? with | some (Value.int _ n), some (Value.int _ i) => (n - i).toNat | _, _ => 0
set_option maxRecDepth 100000 in
set_option maxHeartbeats 8000000 in
theorem lawLAll.walk (k kc : Nat) (A0 : Option Addr) (c0 : Nat) (ss r : List S47) (r1 : Bool) (r2 r3 : Int) (s1 : Bool) (s2 s3 : Int) (all : List (Int × List Int)) (w : World) (hr0 : Kd.C k47 w A0 ss.length ss) (hc0 : ss.length ≤ c0)
    (hfix : leadtraillaw11_fixed.f k = some true) (hck : clash_Prefix.f k ss = some (r1, r2, r3, 0)) (hcj : clash_Inject.f k ss = some (s1, s2, s3, 0)) (hri : code_rising.f k ss = some r) (hF : CodF kc 0 r all) (hrl : r.length ≤ 4611686018427387904)
    (hhp : ∀ x y : ByteArray, ∃ b, strings_HasPrefix.f y x = some b)
    (hyes : all.length ≤ 250 → r1 = !(fl1 (strS all all.length) all.length).1 ∧ s1 = !(fl1 (strS all all.length) all.length).2) :
    Calls Try.prog 12 #[.agg #[.slice A0 ss.length c0]] w fun e w' => e = .returned (.bool true) ∧ Below w.heap.size w w' := by
  have hu69 := Try.underlying69
  have hu71 := Try.underlying71
  have hu92 := Try.underlying92
  have HR := Aside0.mk hr0
  have HC := Aside0.mk hc0
  have HFIX := Aside0.mk hfix
  have HCK := Aside0.mk hck
  have HCJ := Aside0.mk hcj
  have HRI := Aside0.mk hri
  have HF := Aside0.mk hF
  have HRL := Aside0.mk hrl
  have HHP := Aside0.mk hhp
  have HY := Aside0.mk hyes
  clear hr0 hc0 hfix hck hcj hri hF hrl hyes hhp
  have B0 := Aside0.mk (blk_alloc (blk_new w (.cells #[.slice A0 ss.length c0] 69)) (.cells #[.bool false] 4))
  have B1 := Aside0.mk (blk_new2 w (.cells #[.slice A0 ss.length c0] 69) (.cells #[.bool false] 4))
  have HB := Aside0.mk (below_alloc (below_alloc (Below.refl w.heap.size w) (.cells #[.slice A0 ss.length c0] 69)) (.cells #[.bool false] 4))
  refine (callsIn_wide (n := 6)).1 ?_
  refine callsIn_of_wp_marks Try.func12 rfl trivial ?_
  simp only [Try.ntmps12, List.size_toArray, List.length_cons, List.length_nil, Nat.reduceAdd, Nat.reduceSub, Array.replicate_succ, Array.replicate_zero, List.push_toArray, List.append_toArray, List.nil_append, List.cons_append]
  refine wpIn_wide.2 ?_
  go_wp2_with (first
    | (go_at_call 52; (first | refine (leadtraillaw11_fixed.calls k true _ HFIX.out rfl).mono ?_ | refine (leadtraillaw11_fixed.calls k true _ HFIX.out).mono ?_); rintro e w1 ⟨rfl, hb⟩; have n0_ := Aside0.mk (blk_below B0.out hb); have n1_ := Aside0.mk (blk_below B1.out hb); have n3_ := Aside0.mk (below_step HB.out hb); clear B0 B1 HB hb; have B0 := n0_; have B1 := n1_; have HB := n3_; clear n0_ n1_ n3_; have hq0 : w1.cell? ⟨w.heap.size, 0, none⟩ = some (.slice A0 ss.length c0) := (blk_cell B0.out 0).trans rfl)
    | (go_at_call 53; refine (clash_Prefix.calls k A0 c0 ss r1 r2 r3 0 _ (Kd.C_below HR.out HB.out) HC.out HCK.out).mono ?_; rintro e w2 ⟨rfl, hb⟩; clear hq0; have n0_ := Aside0.mk (blk_below B0.out hb); have n1_ := Aside0.mk (blk_below B1.out hb); have n3_ := Aside0.mk (below_step HB.out hb); clear B0 B1 HB hb; have B0 := n0_; have B1 := n1_; have HB := n3_; clear n0_ n1_ n3_; have hq0 : (w2.alloc (.cells #[.bool r1, .int .i64 r2, .int .i64 r3] 71)).cell? ⟨w.heap.size, 0, none⟩ = some (.slice A0 ss.length c0) := (blk_cell (blk_alloc B0.out _) 0).trans rfl; have n0_ := Aside0.mk (blk_alloc B0.out (.cells #[.bool r1, .int .i64 r2, .int .i64 r3] 71)); have n1_ := Aside0.mk (blk_alloc B1.out (.cells #[.bool r1, .int .i64 r2, .int .i64 r3] 71)); have n3_ := Aside0.mk (below_alloc HB.out (.cells #[.bool r1, .int .i64 r2, .int .i64 r3] 71)); have B2 := Aside0.mk (blk_new w2 (.cells #[.bool r1, .int .i64 r2, .int .i64 r3] 71)); have HW2 := Aside0.mk (blk_lt B1.out); clear B0 B1 HB; have B0 := n0_; have B1 := n1_; have HB := n3_; clear n0_ n1_ n3_)
    | (go_at_call 54; refine (clash_Inject.calls k A0 c0 ss s1 s2 s3 0 _ (Kd.C_below HR.out HB.out) HC.out HCJ.out).mono ?_; rintro e w3 ⟨rfl, hb⟩; clear hq0; have n2_ := Aside0.mk (blk_below B2.out hb); clear B2; have B2 := n2_; clear n2_; have n0_ := Aside0.mk (blk_below B0.out hb); have n1_ := Aside0.mk (blk_below B1.out hb); have n3_ := Aside0.mk (below_step HB.out hb); clear B0 B1 HB hb; have B0 := n0_; have B1 := n1_; have HB := n3_; clear n0_ n1_ n3_; have hq0 : ((w3.alloc (.cells #[.bool s1, .int .i64 s2, .int .i64 s3] 71)).alloc (.cells #[.slice none 0 0] 92)).cell? ⟨w.heap.size, 0, none⟩ = some (.slice A0 ss.length c0) := (blk_cell (blk_alloc (blk_alloc B0.out _) _) 0).trans rfl)
    | (go_at_call 41; refine (code_All.calls k A0 c0 ss r 0 _ (Kd.C_below HR.out (below_alloc (below_alloc HB.out _) _)) HC.out HRI.out).mono ?_; rintro e w4 ⟨gl, gf, A3, c3, rfl, hD3, hb⟩; clear hq0; have HD3 := Aside0.mk hD3; have H64 := Aside0.mk hb; clear hb hD3))
  have hn0 := blk_new w3 (.cells #[.bool s1, .int .i64 s2, .int .i64 s3] 71)
  have hn1 := blk_new (w3.alloc (.cells #[.bool s1, .int .i64 s2, .int .i64 s3] 71)) (.cells #[.slice none 0 0] 92)
  simp only [World.size_alloc] at hn0 hn1
  have HLW := Aside0.mk (show w.heap.size + 1 < w2.heap.size ∧ w2.heap.size < w3.heap.size ∧ w3.heap.size < w3.heap.size + 1 from ⟨HW2.out, blk_lt B2.out, by omega⟩)
  have HE6 : Aside0 (EnvA ((w3.alloc (.cells #[.bool s1, .int .i64 s2, .int .i64 s3] 71)).alloc (.cells #[.slice none 0 0] 92)) w.heap.size w2.heap.size w3.heap.size (w3.heap.size + 1) A0 ss.length c0 false r1 r2 r3 s1 s2 s3 (.slice none 0 0)) := ⟨blk_alloc (blk_alloc B0.out _) _, blk_alloc (blk_alloc B1.out _) _, blk_alloc (blk_alloc B2.out _) _, blk_alloc hn0 _, hn1⟩
  have HSW6 := Aside0.mk (show ((w3.alloc (.cells #[.bool s1, .int .i64 s2, .int .i64 s3] 71)).alloc (.cells #[.slice none 0 0] 92)).heap.size = w3.heap.size + 2 by simp)
  have HB6 := Aside0.mk (below_alloc (below_alloc HB.out (.cells #[.bool s1, .int .i64 s2, .int .i64 s3] 71)) (.cells #[.slice none 0 0] 92))
  clear hn0 hn1 B0 B1 B2 HB HW2
  generalize hw6 : ((w3.alloc (.cells #[.bool s1, .int .i64 s2, .int .i64 s3] 71)).alloc (.cells #[.slice none 0 0] 92)) = w6 at HE6 HSW6 HB6 H64 HD3 ⊢
  clear hw6
  have HSW4 := Aside0.mk H64.out.size
  have HE4 := Aside0.mk (HE6.out.below H64.out)
  have HB4 := Aside0.mk (below_step HB6.out H64.out)
  clear HE6
  refine (wpIn_wide (n := 6)).1 ?_
  refine wpIn_rangeFunc_toldH (F := Fence.wide) rfl (by decide) (gf := 92) (lb := #[.pointer (some ⟨gl, 0, none⟩), .pointer (some ⟨gf, 0, none⟩)]) rfl trivial (enters_of Try.func92 (by kernel_rfl) rfl) (cod_seq 5 (by decide) HF.out (D := fun k => w6.heap.size ≤ k ∧ k < w4.heap.size) (w0 := w4) (fun k hk => hk.2) (by decide) HRL.out HD3.out) KpD.trans ?hKb (Below.refl _ _) (fun _ => rfl)
    (fun G pre W => InA W w4.heap.size w.heap.size w2.heap.size w3.heap.size (w3.heap.size + 1) A0 ss.length c0 r1 r2 r3 s1 s2 s3 all pre.length G ∧ Below w.heap.size w W ∧ pre.length ≤ 250 ∧ w4.heap.size ≤ W.heap.size)
    (fun c G pre W => c = .ret ∧ EnvAT W w.heap.size w2.heap.size w3.heap.size (w3.heap.size + 1) A0 ss.length c0 r1 r2 r3 s1 s2 s3 ∧ Below w.heap.size w W)
    ?hI ?hIx ?hIp ?hIxp ⟨⟨_, HE4.out, ⟨rfl, .inl ⟨rfl, rfl⟩⟩, fun k hk => (by cases hk)⟩, HB4.out, by simp, Nat.le_refl _⟩
    (fun G pre x a' W => a' = { tmps := TMLA w.heap.size (w3.heap.size + 1) (.slice x.A x.b.length x.c) (fun i => a'.tmps.getD i undef), defers := [] } ∧ all[pre.length]? = some (x.k, x.b) ∧ Kd.C (Kd.int .u8) W x.A x.b.length x.b)
    ?hAx ?hassign ?hbody ?hdone ?hstop
  case hKb =>
    intro W l_ o o' hl_ ho hc_ hw_
    exact KpD.grown (KpD.refl _ W) (grownBy_putObj' W l_ o') (fun k hk => ⟨by have := (Array.getElem?_eq_some_iff.1 ho).1; omega, fun e => by cases e; omega⟩)
  case hI =>
    rintro B hB G G' pre W W' ⟨⟨v, h1, hO, hn⟩, h2, h3⟩ hG hg hG'
    have hs6 := HSW6.out; have hs4 := HSW4.out; have hlw := HLW.out
    exact ⟨⟨v, h1.moved (fun k o hk hle => hg.block k (Array.getElem?_eq_some_iff.1 hk).1 (fun hgk => by have := hG k hgk; omega)), own_blk hO (fun k hk => hg.block k (own_lt hO k hk) (hn k hk)), fun k hk hg2 => (hG' k hg2).elim (hn k hk) (fun h => by have := own_lt hO k hk; omega)⟩, GrownG.below h2 hg (fun k hgk => by have := hG k hgk; omega) h2.size, h3.1, Nat.le_trans h3.2 hg.size⟩
  case hIx =>
    rintro c B hB G G' pre W W' ⟨h0, ⟨v, h1⟩, h2⟩ hG hg hG'
    have hs6 := HSW6.out; have hs4 := HSW4.out; have hlw := HLW.out
    exact ⟨h0, ⟨v, h1.moved (fun k o hk hle => hg.block k (Array.getElem?_eq_some_iff.1 hk).1 (fun hgk => by have := hG k hgk; omega))⟩, GrownG.below h2 hg (fun k hgk => by have := hG k hgk; omega) h2.size⟩
  case hIp =>
    rintro G pre W l_ o o' hG ⟨⟨v, h1, hO, hn⟩, h2, h3⟩ hl_ ho hc_
    have hs6 := HSW6.out; have hs4 := HSW4.out; have hlw := HLW.out
    exact ⟨⟨v, h1.moved (fun k o2 hk hle => World.putObj_heap_other (fun e => by subst e; omega)), own_blk hO (fun k hk => World.putObj_heap_other (fun e => by subst e; have := own_obj hO hk ho; rw [this] at hc_; cases hc_)), hn⟩, h2.grown (grownBy_putObj' W l_ o') h2.size (fun k e => by cases e; omega), h3.1, (by simpa [World.putObj] using h3.2)⟩
  case hIxp =>
    rintro c G pre W l_ o o' hG ⟨h0, ⟨v, h1⟩, h2⟩ hl_ ho hc_
    have hs6 := HSW6.out; have hs4 := HSW4.out; have hlw := HLW.out
    exact ⟨h0, ⟨v, h1.moved (fun k o2 hk hle => World.putObj_heap_other (fun e => by subst e; omega))⟩, h2.grown (grownBy_putObj' W l_ o') h2.size (fun k e => by cases e; omega)⟩
  case hAx =>
    rintro G pre x a' W o o' hG ⟨h1, h2, h5⟩ ho hc_
    exact ⟨h1, h2, CB_stay h5 (grownBy_putObj' W _ o') (fun r e => by cases e; exact ⟨o, ho, hc_⟩)⟩
  case hassign =>
    rintro l_ G0 G pre x Wp W K hG hG0 hWp hI0 hg0 hfr_ hI hRd hK
    unfold encA
    simp only [List.size_toArray, Array.zip, List.zip_toArray]
    gi_wp2
    exact hK _ _ (KeepsFrom.refl _ _) (KpD.refl _ _) (fun _ _ => rfl) hI ⟨rfl, hRd.1, (Kd.R_reads' hRd.2).2.2⟩
  case hbody =>
    rintro l_ G pre x_ a' W hG ⟨⟨v, HE, HO, HN⟩, HBW, hp6, h4w⟩ ⟨ha, hxa, hx1⟩
    generalize (fun i => a'.tmps.getD i undef) = u at ha
    subst ha
    unfold TMLA
    obtain ⟨xk, xA, xc, xb⟩ := x_
    simp only at hxa hx1 ⊢
    obtain ⟨x_, hx_⟩ : ∃ x_, x_ = (⟨xk, xA, xc, xb⟩ : AX) := ⟨_, rfl⟩
    rw [← hx_]
    clear hx_
    have hL : (pre ++ [x_]).length = pre.length + 1 := by simp
    have hst : strS all (pre.length + 1) = strS all pre.length ++ [strOfNums xb] := by
      unfold strS
      rw [List.take_add_one, hxa]
      simp
    have HL_ := Aside0.mk hL
    have HST := Aside0.mk hst
    have HG := Aside0.mk hG
    have E := Aside0.mk HE
    have BW := Aside0.mk HBW
    have RO := Aside0.mk HO
    have RN := Aside0.mk HN
    have HP6 := Aside0.mk hp6
    have H4W := Aside0.mk h4w
    obtain ⟨e1, e2, e3, e4, g1, g4⟩ := HE.cells
    have cv1 := Kd.C_string (P := Try.prog) (A := xA) (c := xc) Try.underlying59 Try.underlying5 Try.underlying9 hx1
    obtain ⟨i0, hi, hzz⟩ := Option.map_eq_some_iff.1 info9a
    simp only [Prod.mk.injEq] at hzz
    obtain ⟨hz0, hz1, hz2⟩ := hzz
    have HI := Aside0.mk hi; have HZ0 := Aside0.mk hz0; have HZ1 := Aside0.mk hz1; have HZ2 := Aside0.mk hz2
    clear hi hz0 hz1 hz2 hL hst hG HE HBW HO HN hp6 h4w hxa hx1
    have hbs := Aside0.mk (own_base RO.out)
    obtain ⟨nN, hnN⟩ : ∃ nN, nN = pre.length + 1 := ⟨_, rfl⟩
    have HNN := Aside0.mk hnN
    clear hnN
    rcases (show 250 < ((pre.length + 1 : Nat) : Int) ∨ ¬ 250 < ((pre.length + 1 : Nat) : Int) by omega) with c6 | c6
    · have d6 : decide (250 < ((pre.length : Nat) : Int) + 1) = true := by simp; omega
      have C6 := Aside0.mk c6
      clear c6
      gi_wp2_with (first | (gi_at_builtin; go_loud (refine wpListIn_append_own_at _ rfl _ _ 92 rfl w4.heap.size 9 i0 (.string ⟨#[]⟩) 1 16 Try.underlying92 HI.out HZ0.out HZ1.out HZ2.out rfl (by decide) v pre.length (encs Value.string (strS all pre.length)) rfl (RO.out.alloc _) ⟨W.heap.size, 0, none⟩ 1 1 [.string (strOfNums xb)] rfl rfl (cell_one_new _ _ _) (by simp [Value.oneCell']) (by have := HP6.out; simp only [maxLen]; omega) (by have := HP6.out; omega) ?b_ ?_; (case b_ => have := H4W.out; simp; omega); intro v' w3_ ho3 hg3 _ hat3; obtain ⟨g', cap', rfl⟩ := own_form ho3; have hs3 : ∀ k, k < W.heap.size → v.ownBlock ≠ some k → w3_.heap[k]? = W.heap[k]? := fun k hk hne => (hg3.block k (by simp; omega) (fun e => hne e.symm)).trans (Below.heap_alloc _ _ k hk); have hlo : ∀ k, k < w4.heap.size → w3_.heap[k]? = W.heap[k]? := fun k hk => hs3 k (by have := H4W.out; omega) (fun e => by have := hbs.out k e; omega); have e3_ := E.out.moved (W' := w3_) (fun k o hk hle => hlo k (by have := HSW6.out; have := HSW4.out; have := HLW.out; omega)); obtain ⟨f1, f2, f3, f4, y1, y4⟩ := e3_.cells; have E3 := Aside0.mk e3_; have st := e3_.step HLW.out (.slice (some ⟨g', 0, none⟩) nN cap'); rw [HNN.out] at st; have ST := Aside0.mk st; obtain ⟨k1, k2, k3, k4, z1, z4⟩ := st.cells; have HS3 := Aside0.mk hs3; have HLO := Aside0.mk hlo; have HO3 := Aside0.mk ho3; have HG3 := Aside0.mk hg3; have HAT := Aside0.mk hat3; clear hs3 hlo ho3 hg3 hat3 e3_ st)))
      have HWB := Aside0.mk (((BW.out.alloc (by exact BW.out.size) (.cells #[.string (strOfNums xb)] 9)).grown HG3.out (by have := BW.out.size; simp; omega) (fun k hk => by have := hbs.out k hk; have := HB4.out.size; omega)).setCell (p := ⟨w3.heap.size + 1, 0, none⟩) (by show w.heap.size ≤ w3.heap.size + 1; have := HLW.out; omega) (.slice (some ⟨g', 0, none⟩) (pre.length + 1) cap'))
      have HZ3 := Aside0.mk (show W.heap.size ≤ w3_.heap.size from by have := HG3.out.size; simp at this; omega)
      have KF3 : Aside0 (KeepsFrom w4.heap.size W w3_) := ⟨⟨HZ3.out, fun k o _ hk hc => (HS3.out k (Array.getElem?_eq_some_iff.1 hk).1 (fun e => by have := own_obj RO.out e hk; rw [this] at hc; cases hc)).trans hk⟩⟩
      have KFR := Aside0.mk (KF3.out.trans ((KeepsOthers.setCell w3_ ⟨w3.heap.size + 1, 0, none⟩ (.slice (some ⟨g', 0, none⟩) (pre.length + 1) cap')).from w4.heap.size))
      exact ⟨KFR.out.trans ((KeepsOthers.setCell _ ⟨w.heap.size + 1, 0, none⟩ (.bool true)).from _), rfl, ⟨_, ST.out.told HLW.out true⟩, HWB.out.setCell (p := ⟨w.heap.size + 1, 0, none⟩) (by show w.heap.size ≤ w.heap.size + 1; omega) _⟩
    · have d6 : decide (250 < ((pre.length : Nat) : Int) + 1) = false := by simp; omega
      have C6 := Aside0.mk c6
      clear c6
      gi_wp2_with (first | (gi_at_builtin; go_loud (refine wpListIn_append_own_at _ rfl _ _ 92 rfl w4.heap.size 9 i0 (.string ⟨#[]⟩) 1 16 Try.underlying92 HI.out HZ0.out HZ1.out HZ2.out rfl (by decide) v pre.length (encs Value.string (strS all pre.length)) rfl (RO.out.alloc _) ⟨W.heap.size, 0, none⟩ 1 1 [.string (strOfNums xb)] rfl rfl (cell_one_new _ _ _) (by simp [Value.oneCell']) (by have := HP6.out; simp only [maxLen]; omega) (by have := HP6.out; omega) ?b_ ?_; (case b_ => have := H4W.out; simp; omega); intro v' w3_ ho3 hg3 _ hat3; obtain ⟨g', cap', rfl⟩ := own_form ho3; have hs3 : ∀ k, k < W.heap.size → v.ownBlock ≠ some k → w3_.heap[k]? = W.heap[k]? := fun k hk hne => (hg3.block k (by simp; omega) (fun e => hne e.symm)).trans (Below.heap_alloc _ _ k hk); have hlo : ∀ k, k < w4.heap.size → w3_.heap[k]? = W.heap[k]? := fun k hk => hs3 k (by have := H4W.out; omega) (fun e => by have := hbs.out k e; omega); have e3_ := E.out.moved (W' := w3_) (fun k o hk hle => hlo k (by have := HSW6.out; have := HSW4.out; have := HLW.out; omega)); obtain ⟨f1, f2, f3, f4, y1, y4⟩ := e3_.cells; have E3 := Aside0.mk e3_; have st := e3_.step HLW.out (.slice (some ⟨g', 0, none⟩) nN cap'); rw [HNN.out] at st; have ST := Aside0.mk st; obtain ⟨k1, k2, k3, k4, z1, z4⟩ := st.cells; have HS3 := Aside0.mk hs3; have HLO := Aside0.mk hlo; have HO3 := Aside0.mk ho3; have HG3 := Aside0.mk hg3; have HAT := Aside0.mk hat3; clear hs3 hlo ho3 hg3 hat3 e3_ st)))
      have HWB := Aside0.mk (((BW.out.alloc (by exact BW.out.size) (.cells #[.string (strOfNums xb)] 9)).grown HG3.out (by have := BW.out.size; simp; omega) (fun k hk => by have := hbs.out k hk; have := HB4.out.size; omega)).setCell (p := ⟨w3.heap.size + 1, 0, none⟩) (by show w.heap.size ≤ w3.heap.size + 1; have := HLW.out; omega) (.slice (some ⟨g', 0, none⟩) (pre.length + 1) cap'))
      have HZ3 := Aside0.mk (show W.heap.size ≤ w3_.heap.size from by have := HG3.out.size; simp at this; omega)
      have KF3 : Aside0 (KeepsFrom w4.heap.size W w3_) := ⟨⟨HZ3.out, fun k o _ hk hc => (HS3.out k (Array.getElem?_eq_some_iff.1 hk).1 (fun e => by have := own_obj RO.out e hk; rw [this] at hc; cases hc)).trans hk⟩⟩
      have KFR := Aside0.mk (KF3.out.trans ((KeepsOthers.setCell w3_ ⟨w3.heap.size + 1, 0, none⟩ (.slice (some ⟨g', 0, none⟩) (pre.length + 1) cap')).from w4.heap.size))
      have hs9 : ∀ k, k ≠ w3.heap.size + 1 → (w3_.setCell ⟨w3.heap.size + 1, 0, none⟩ (.slice (some ⟨g', 0, none⟩) (pre.length + 1) cap')).heap[k]? = w3_.heap[k]? := fun k h1 => Below.heap_setCell _ ⟨w3.heap.size + 1, 0, none⟩ _ k h1
      have hgB : w4.heap.size ≤ g' := own_base HO3.out g' rfl
      have HGB := Aside0.mk hgB
      have hz9 : W.heap.size ≤ (w3_.setCell ⟨w3.heap.size + 1, 0, none⟩ (.slice (some ⟨g', 0, none⟩) (pre.length + 1) cap')).heap.size := Nat.le_trans HZ3.out (KeepsOthers.setCell _ _ _).size
      refine ⟨KFR.out, ⟨⟨hz9, fun k hk => (hs9 k (by have := HSW6.out; omega)).trans (HLO.out k (by omega))⟩, fun k hk => (hs9 k (by have := (HG.out k hk).1; have := HSW6.out; have := HSW4.out; omega)).trans (HS3.out k (HG.out k hk).2 (fun e => RN.out k e hk))⟩, ?_, HWB.out, by rw [HL_.out]; have := C6.out; omega, Nat.le_trans H4W.out hz9⟩
      rw [HL_.out]
      refine ⟨_, ST.out, ?_, fun k hk hgk => ?_⟩
      · refine own_blk (w := w3_) ?_ (fun k hk => hs9 k (by have hk : g' = k := (by injection hk); have := HSW6.out; have := HSW4.out; omega))
        rw [HST.out, encs_append]
        exact HO3.out
      · have hk : g' = k := by injection hk
        subst hk
        rcases HAT.out with h | h
        · exact RN.out _ h.symm hgk
        · have := (HG.out _ hgk).2; injection h with h; simp at h; omega
  case hdone =>
    rintro D G ys W hD hys ⟨⟨v, hE, hO, hN⟩, hBW, hp6, h4w⟩ hK
    obtain ⟨hr1, hs1⟩ := HY.out (by omega)
    rw [hys] at hO hp6
    obtain ⟨l, hl⟩ : ∃ l, l = strS all all.length := ⟨_, rfl⟩
    have hll : l.length = all.length := by rw [hl]; unfold strS; simp
    rw [← hl] at hO hr1 hs1
    rw [← hll] at hO hr1 hs1 hp6
    obtain ⟨A5, c5, hv5, hc5, hC5⟩ := Kd.R_reads (Kd.R_of_own (h1 := fun _ => rfl) (ok := fun _ => True) hO (fun _ _ => trivial))
    subst hv5
    have HP : Aside0 (InP w W D w.heap.size w2.heap.size w3.heap.size (w3.heap.size + 1) A0 ss.length c0 r1 r2 r3 s1 s2 s3 A5 c5 l) := ⟨hE, hC5, hBW, hK⟩
    have HDD := Aside0.mk hD
    have HLL := Aside0.mk hp6
    have HR1 := Aside0.mk hr1
    have HS1 := Aside0.mk hs1
    obtain ⟨e1, e2, e3, e4, g1, g4⟩ := hE.cells
    clear hE hO hN hBW hp6 h4w hK hr1 hs1 hl hll hys hC5 hc5 hD
    go_wp2
    clear e1 e2 e3 e4 g1 g4
    refine wp_loop (fun a W => ∃ (j : Nat), a = { tmps := TMLP w.heap.size w2.heap.size w3.heap.size (w3.heap.size + 1) (fl1 l j).1 (fl1 l j).2 (.slice A5 l.length c5) (l.length : Int) (j : Int) (fun i => a.tmps.getD i undef), defers := [D].map fun D => { target := .collected D, args := #[] } } ∧ j ≤ l.length ∧ InP w W D w.heap.size w2.heap.size w3.heap.size (w3.heap.size + 1) A0 ss.length c0 r1 r2 r3 s1 s2 s3 A5 c5 l) (fun a _ => leftP a) ⟨0, rfl, Nat.zero_le _, HP.out⟩ ?_
    clear HP
    rintro a V ⟨j, ha, hj, HP⟩
    generalize (fun i => a.tmps.getD i undef) = u at ha
    subst ha
    unfold TMLP
    obtain ⟨⟨q, e⟩, hf⟩ : ∃ f, f = fl1 l j := ⟨_, rfl⟩
    rw [← hf]
    simp only
    obtain ⟨e1, e2, e3, e4, g1, g4⟩ := HP.1.cells
    have HF1 := Aside0.mk hf
    have HP1 := Aside0.mk HP
    clear hf HP
    by_cases hj2 : j = l.length
    · have hl : decide ((j : Int) < (l.length : Int)) = false := by simp; omega
      have hlN : decide (j < l.length) = false := by simp; omega
      have dr : (r1 == !q) = true := by have h1 := HR1.out; rw [← hj2, ← HF1.out] at h1; rw [h1]; simp
      have ds : (s1 == !e) = true := by have h1 := HS1.out; rw [← hj2, ← HF1.out] at h1; rw [h1]; simp
      have BW := Aside0.mk HP1.out.2.2.1
      have HK := Aside0.mk HP1.out.2.2.2
      clear hj hj2
      go_wp2
      refine leaves_marks (D0 := w4.heap.size) (X := fun W => W.cell? ⟨w.heap.size + 1, 0, none⟩ = some (.bool true) ∧ Below w.heap.size w W) ?_ ?_ [D] _ (by simp) ?_ ⟨World.cell?_setCell_same' _ _ _ (by rw [e1]; rfl), BW.out.setCell (p := ⟨w.heap.size + 1, 0, none⟩) (by show w.heap.size ≤ w.heap.size + 1; omega) _⟩
      · rintro W D ⟨h1, h2⟩ hD0 hd
        have hs6 := HSW6.out; have hs4 := HSW4.out; have hlw := HLW.out
        exact ⟨cell_kept h1 (grownBy_putObj' W D _) (fun r e => by cases e; exact ⟨_, hd, rfl⟩), h2.grown (grownBy_putObj' W D _) h2.size (fun k e => by cases e; omega)⟩
      · rintro W ⟨h1, h2⟩
        exact ⟨.bool true, by simp [results, Try.f12, go_sem, h1], rfl, h2⟩
      · intro D' hd
        rw [List.mem_singleton.1 hd]
        exact ⟨by have := HDD.out; omega, blk_set_far HK.out (by have := HDD.out; have hs6 := HSW6.out; have hs4 := HSW4.out; have hlw := HLW.out; omega) _⟩
    · have hl : decide ((j : Int) < (l.length : Int)) = true := by simp; omega
      have hlN : decide (j < l.length) = true := by simp; omega
      have hjl : j < l.length := by omega
      have HJL := Aside0.mk hjl
      obtain ⟨ad, e5, hx⟩ := Kd.at_string HP1.out.2.1 (j : Int) (by omega) (by omega)
      subst e5
      have px : ((0 : Int) ≤ (j : Int)) = True := eq_true (by omega)
      have qx : ((j : Int) < (l.length : Int)) = True := eq_true (by omega)
      obtain ⟨x, hxe⟩ : ∃ x, x = rdOf ByteArray.empty l (j : Int) := ⟨_, rfl⟩
      rw [← hxe] at hx
      have hx2 : V.cell? (ad.add j) = some (.string x) := hx
      have HXE := Aside0.mk hxe
      clear hj hj2 hjl hxe
      go_wp2
      clear e1 e2 e3 e4 g1 g4 hx hx2 hl hlN px qx
      refine wp_loop (fun a W => ∃ (k : Nat), a = { tmps := TMLQ w.heap.size w2.heap.size w3.heap.size (w3.heap.size + 1) (fl2 l x j (q, e) k).1 (fl2 l x j (q, e) k).2 (.slice (some ad) l.length c5) (l.length : Int) (j : Int) x (k : Int) (fun i => a.tmps.getD i undef), defers := [D].map fun D => { target := .collected D, args := #[] } } ∧ k ≤ l.length ∧ InP w W D w.heap.size w2.heap.size w3.heap.size (w3.heap.size + 1) A0 ss.length c0 r1 r2 r3 s1 s2 s3 (some ad) c5 l) (fun a _ => leftQ a) ⟨0, rfl, Nat.zero_le _, HP1.out⟩ ?_
      clear HP1
      rintro a V2 ⟨kk, ha, hk, HP⟩
      generalize (fun i => a.tmps.getD i undef) = u2 at ha
      subst ha
      unfold TMLQ
      obtain ⟨⟨q2, e9⟩, hf2⟩ : ∃ f, f = fl2 l x j (q, e) kk := ⟨_, rfl⟩
      rw [← hf2]
      simp only
      obtain ⟨e1, e2, e3, e4, g1, g4⟩ := HP.1.cells
      have HF2 := Aside0.mk hf2
      have HP2 := Aside0.mk HP
      clear hf2 HP
      by_cases hk2 : kk = l.length
      · have hl : decide ((kk : Int) < (l.length : Int)) = false := by simp; omega
        have hlN : decide (kk < l.length) = false := by simp; omega
        have hw_ : wrap64 ((j : Int) + 1) = (j : Int) + 1 := by have := HJL.out; have := HLL.out; exact w64o (by omega) (by omega)
        have hnx : fl1 l (j + 1) = (q2, e9) := by rw [fl1, ← HF1.out, ← HXE.out, ← hk2, ← HF2.out]
        have HNX := Aside0.mk hnx
        clear hk hk2 hnx
        go_wp2
        try rw [hw_]
        refine ⟨⟨j + 1, ?_, by have := HJL.out; omega, HP2.out⟩, ?_⟩
        · rw [HNX.out]; rfl
        · have := HJL.out
          show ((l.length : Int) - ((j : Int) + 1)).toNat < ((l.length : Int) - (j : Int)).toNat
          omega
      · have hl : decide ((kk : Int) < (l.length : Int)) = true := by simp; omega
        have hlN : decide (kk < l.length) = true := by simp; omega
        have hkl : kk < l.length := by omega
        have HKL := Aside0.mk hkl
        obtain ⟨ad2, e5, hy⟩ := Kd.at_string HP2.out.2.1 (kk : Int) (by omega) (by omega)
        cases e5
        have px : ((0 : Int) ≤ (kk : Int)) = True := eq_true (by omega)
        have qx : ((kk : Int) < (l.length : Int)) = True := eq_true (by omega)
        obtain ⟨y, hye⟩ : ∃ y, y = rdOf ByteArray.empty l (kk : Int) := ⟨_, rfl⟩
        rw [← hye] at hy
        have hy2 : V2.cell? (ad.add kk) = some (.string y) := hy
        have hw_ : wrap64 ((kk : Int) + 1) = (kk : Int) + 1 := by have := HKL.out; have := HLL.out; exact w64o (by omega) (by omega)
        obtain ⟨hpv, hhp⟩ := HHP.out x y
        have hpe : hpB y x = hpv := by unfold hpB; rw [hhp]; rfl
        have HHQ := Aside0.mk hhp
        obtain ⟨lt, hlt⟩ : ∃ v, v = decide ((x.size : Int) < (y.size : Int)) := ⟨_, rfl⟩
        obtain ⟨dj, hdj⟩ : ∃ v, v = decide (j ≠ kk) := ⟨_, rfl⟩
        obtain ⟨eq, heq⟩ : ∃ v, v = (x.toList == y.toList) := ⟨_, rfl⟩
        have hnx : fl2 l x j (q, e) (kk + 1) = (q2 || (lt && hpv), e9 || (dj && eq)) := by rw [fl2, ← HF2.out, ← hye, stepF, ← hlt, ← hdj, ← heq, hpe]
        have HNX := Aside0.mk hnx
        have hlt2 := hlt.symm; have heq2 := heq.symm; have hltN : decide (x.size < y.size) = lt := by rw [hlt]; exact decide_eq_decide.2 (by omega)
        have hdj2 : ((j : Int) != (kk : Int)) = dj := by
          rw [hdj]
          by_cases c : j = kk
          · subst c; simp
          · rw [decide_eq_true c, bne_iff_ne]; omega
        clear hk hk2 hkl hye hnx hhp hpe hlt hdj heq
        cases q2 with
        | true =>
          cases e9 with
          | true =>
            go_wp2
            try rw [hw_]
            refine ⟨⟨kk + 1, ?_, by have := HKL.out; omega, HP2.out⟩, ?_⟩
            · rw [HNX.out]; first | rfl | (simp; done) | (simp; rfl)
            · have := HKL.out
              show ((l.length : Int) - ((kk : Int) + 1)).toNat < ((l.length : Int) - (kk : Int)).toNat
              omega
          | false =>
            cases dj with
            | true =>
              go_wp2
              try rw [hw_]
              refine ⟨⟨kk + 1, ?_, by have := HKL.out; omega, HP2.out⟩, ?_⟩
              · rw [HNX.out]; first | rfl | (simp; done) | (simp; rfl)
              · have := HKL.out
                show ((l.length : Int) - ((kk : Int) + 1)).toNat < ((l.length : Int) - (kk : Int)).toNat
                omega
            | false =>
              go_wp2
              try rw [hw_]
              refine ⟨⟨kk + 1, ?_, by have := HKL.out; omega, HP2.out⟩, ?_⟩
              · rw [HNX.out]; first | rfl | (simp; done) | (simp; rfl)
              · have := HKL.out
                show ((l.length : Int) - ((kk : Int) + 1)).toNat < ((l.length : Int) - (kk : Int)).toNat
                omega
        | false =>
          cases lt with
          | true =>
            cases e9 with
            | true =>
              go_wp2_with (first | (go_at_call 55; refine (strings_HasPrefix.calls y x hpv _ HHQ.out).mono ?_; rintro e_ V3 ⟨rfl, hd3⟩; have HP3 := Aside0.mk (HP2.out.below hd3.below); clear HP2; have HP2 := HP3; clear HP3 hd3))
              try rw [hw_]
              refine ⟨⟨kk + 1, ?_, by have := HKL.out; omega, HP2.out⟩, ?_⟩
              · rw [HNX.out]; first | rfl | (simp; done) | (simp; rfl)
              · have := HKL.out
                show ((l.length : Int) - ((kk : Int) + 1)).toNat < ((l.length : Int) - (kk : Int)).toNat
                omega
            | false =>
              cases dj with
              | true =>
                go_wp2_with (first | (go_at_call 55; refine (strings_HasPrefix.calls y x hpv _ HHQ.out).mono ?_; rintro e_ V3 ⟨rfl, hd3⟩; have HP3 := Aside0.mk (HP2.out.below hd3.below); clear HP2; have HP2 := HP3; clear HP3 hd3))
                try rw [hw_]
                refine ⟨⟨kk + 1, ?_, by have := HKL.out; omega, HP2.out⟩, ?_⟩
                · rw [HNX.out]; first | rfl | (simp; done) | (simp; rfl)
                · have := HKL.out
                  show ((l.length : Int) - ((kk : Int) + 1)).toNat < ((l.length : Int) - (kk : Int)).toNat
                  omega
              | false =>
                go_wp2_with (first | (go_at_call 55; refine (strings_HasPrefix.calls y x hpv _ HHQ.out).mono ?_; rintro e_ V3 ⟨rfl, hd3⟩; have HP3 := Aside0.mk (HP2.out.below hd3.below); clear HP2; have HP2 := HP3; clear HP3 hd3))
                try rw [hw_]
                refine ⟨⟨kk + 1, ?_, by have := HKL.out; omega, HP2.out⟩, ?_⟩
                · rw [HNX.out]; first | rfl | (simp; done) | (simp; rfl)
                · have := HKL.out
                  show ((l.length : Int) - ((kk : Int) + 1)).toNat < ((l.length : Int) - (kk : Int)).toNat
                  omega
          | false =>
            cases e9 with
            | true =>
              go_wp2
              try rw [hw_]
              refine ⟨⟨kk + 1, ?_, by have := HKL.out; omega, HP2.out⟩, ?_⟩
              · rw [HNX.out]; first | rfl | (simp; done) | (simp; rfl)
              · have := HKL.out
                show ((l.length : Int) - ((kk : Int) + 1)).toNat < ((l.length : Int) - (kk : Int)).toNat
                omega
            | false =>
              cases dj with
              | true =>
                go_wp2
                try rw [hw_]
                refine ⟨⟨kk + 1, ?_, by have := HKL.out; omega, HP2.out⟩, ?_⟩
                · rw [HNX.out]; first | rfl | (simp; done) | (simp; rfl)
                · have := HKL.out
                  show ((l.length : Int) - ((kk : Int) + 1)).toNat < ((l.length : Int) - (kk : Int)).toNat
                  omega
              | false =>
                go_wp2
                try rw [hw_]
                refine ⟨⟨kk + 1, ?_, by have := HKL.out; omega, HP2.out⟩, ?_⟩
                · rw [HNX.out]; first | rfl | (simp; done) | (simp; rfl)
                · have := HKL.out
                  show ((l.length : Int) - ((kk : Int) + 1)).toNat < ((l.length : Int) - (kk : Int)).toNat
                  omega
  case hstop =>
    rintro D c G pre W hD _ hSp ⟨rfl, ⟨v, hE⟩, hBW⟩ hK
    have BW := Aside0.mk hBW
    have HK := Aside0.mk hK
    have HDD := Aside0.mk hD
    have E := Aside0.mk hE
    obtain ⟨e1, e2, e3, e4, g1, g4⟩ := hE.cells
    clear hD hE hBW hK hSp
    refine wpIn_wide.2 ?_
    go_wp2
    refine leaves_marks (D0 := w4.heap.size) (X := fun W => W.cell? ⟨w.heap.size + 1, 0, none⟩ = some (.bool true) ∧ Below w.heap.size w W) ?_ ?_ [D] _ (by simp) ?_ ⟨e1, BW.out⟩
    · rintro W D ⟨h1, h2⟩ hD0 hd
      have hs6 := HSW6.out; have hs4 := HSW4.out; have hlw := HLW.out
      exact ⟨cell_kept h1 (grownBy_putObj' W D _) (fun r e => by cases e; exact ⟨_, hd, rfl⟩), h2.grown (grownBy_putObj' W D _) h2.size (fun k e => by cases e; omega)⟩
    · rintro W ⟨h1, h2⟩
      exact ⟨.bool true, by simp [results, Try.f12, go_sem, h1], rfl, h2⟩
    · intro D' hd
      rw [List.mem_singleton.1 hd]
      exact ⟨by have := HDD.out; omega, HK.out⟩
set_option maxRecDepth 100000 in
set_option maxHeartbeats 8000000 in
theorem lawLAll.not (k : Nat) (A0 : Option Addr) (c0 : Nat) (ss : List S47) (r2 r3 s2 s3 r4 : Int) (w : World) (hr0 : Kd.C k47 w A0 ss.length ss) (hc0 : ss.length ≤ c0) (hne : r4 ≠ 0)
    (hfix : leadtraillaw11_fixed.f k = some true) (hck : clash_Prefix.f k ss = some (false, r2, r3, r4)) (hcj : clash_Inject.f k ss = some (false, s2, s3, r4)) :
    Calls Try.prog 12 #[.agg #[.slice A0 ss.length c0]] w fun e w' => e = .returned (.bool true) ∧ Below w.heap.size w w' := by
  have hu69 := Try.underlying69
  have hu71 := Try.underlying71
  have HR := Aside0.mk hr0
  have HC := Aside0.mk hc0
  have HFIX := Aside0.mk hfix
  have HCK := Aside0.mk hck
  have HCJ := Aside0.mk hcj
  have d0 : (r4 != 0) = true := by simpa using hne
  have d1 : (r4 == r4) = true := by simp
  clear hr0 hc0 hfix hck hcj hne
  have B0 := Aside0.mk (blk_alloc (blk_new w (.cells #[.slice A0 ss.length c0] 69)) (.cells #[.bool false] 4))
  have B1 := Aside0.mk (blk_new2 w (.cells #[.slice A0 ss.length c0] 69) (.cells #[.bool false] 4))
  have HB := Aside0.mk (below_alloc (below_alloc (Below.refl w.heap.size w) (.cells #[.slice A0 ss.length c0] 69)) (.cells #[.bool false] 4))
  refine (callsIn_wide (n := 6)).1 ?_
  refine callsIn_of_wp Try.func12 rfl trivial ?_
  simp only [Try.ntmps12, List.size_toArray, List.length_cons, List.length_nil, Nat.reduceAdd, Nat.reduceSub, Array.replicate_succ, Array.replicate_zero, List.push_toArray, List.append_toArray, List.nil_append, List.cons_append]
  refine wpIn_wide.2 ?_
  go_wp2_with (first
    | (go_at_call 52; (first | refine (leadtraillaw11_fixed.calls k true _ HFIX.out rfl).mono ?_ | refine (leadtraillaw11_fixed.calls k true _ HFIX.out).mono ?_); rintro e w1 ⟨rfl, hb⟩; have n0_ := Aside0.mk (blk_below B0.out hb); have n1_ := Aside0.mk (blk_below B1.out hb); have n3_ := Aside0.mk (below_step HB.out hb); clear B0 B1 HB hb; have B0 := n0_; have B1 := n1_; have HB := n3_; clear n0_ n1_ n3_; have hq0 : w1.cell? ⟨w.heap.size, 0, none⟩ = some (.slice A0 ss.length c0) := (blk_cell B0.out 0).trans rfl)
    | (go_at_call 53; refine (clash_Prefix.calls k A0 c0 ss false r2 r3 r4 _ (Kd.C_below HR.out HB.out) HC.out HCK.out).mono ?_; rintro e w2 ⟨rfl, hb⟩; clear hq0; have n0_ := Aside0.mk (blk_below B0.out hb); have n1_ := Aside0.mk (blk_below B1.out hb); have n3_ := Aside0.mk (below_step HB.out hb); clear B0 B1 HB hb; have B0 := n0_; have B1 := n1_; have HB := n3_; clear n0_ n1_ n3_; have hq0 : (w2.alloc (.cells #[.bool false, .int .i64 r2, .int .i64 r3] 71)).cell? ⟨w.heap.size, 0, none⟩ = some (.slice A0 ss.length c0) := (blk_cell (blk_alloc B0.out _) 0).trans rfl; have n0_ := Aside0.mk (blk_alloc B0.out (.cells #[.bool false, .int .i64 r2, .int .i64 r3] 71)); have n1_ := Aside0.mk (blk_alloc B1.out (.cells #[.bool false, .int .i64 r2, .int .i64 r3] 71)); have n3_ := Aside0.mk (below_alloc HB.out (.cells #[.bool false, .int .i64 r2, .int .i64 r3] 71)); have B2 := Aside0.mk (blk_new w2 (.cells #[.bool false, .int .i64 r2, .int .i64 r3] 71)); clear B0 B1 HB; have B0 := n0_; have B1 := n1_; have HB := n3_; clear n0_ n1_ n3_)
    | (go_at_call 54; refine (clash_Inject.calls k A0 c0 ss false s2 s3 r4 _ (Kd.C_below HR.out HB.out) HC.out HCJ.out).mono ?_; rintro e w3 ⟨rfl, hb⟩; clear hq0; have n2_ := Aside0.mk (blk_below B2.out hb); clear B2; have B2 := n2_; clear n2_; have n0_ := Aside0.mk (blk_below B0.out hb); have n1_ := Aside0.mk (blk_below B1.out hb); have n3_ := Aside0.mk (below_step HB.out hb); clear B0 B1 HB hb; have B0 := n0_; have B1 := n1_; have HB := n3_; clear n0_ n1_ n3_; have hq1 := (blk_cell (blk_alloc B1.out (.cells #[.bool false, .int .i64 s2, .int .i64 s3] 71)) 0).trans rfl; have hq2 := blk_frozen (blk_alloc B1.out (.cells #[.bool false, .int .i64 s2, .int .i64 s3] 71)) 0; have hq3 := (blk_cell (blk_alloc B2.out (.cells #[.bool false, .int .i64 s2, .int .i64 s3] 71)) 0).trans rfl))
  have hc9 := World.cell?_setCell_same' (w3.alloc (.cells #[.bool false, .int .i64 s2, .int .i64 s3] 71)) ⟨w.heap.size + 1, 0, none⟩ (.bool true) (by rw [hq1]; rfl)
  exact ⟨rfl, .bool true, by simp [results, Try.f12, go_sem, hc9], rfl, (below_alloc HB.out _).setCell (p := ⟨w.heap.size + 1, 0, none⟩) (by show w.heap.size ≤ w.heap.size + 1; omega) _⟩
def leadtraillaw11_ClashAll.Good (k : Nat) (ss : List S47) : Prop :=
  ∃ (r1 : Bool) (r2 r3 r4 : Int) (s1 : Bool) (s2 s3 s4 : Int), leadtraillaw11_fixed.f k = some true ∧ clash_Prefix.f k ss = some (r1, r2, r3, r4) ∧ clash_Inject.f k ss = some (s1, s2, s3, s4) ∧
    ((r4 ≠ 0 ∧ s4 = r4 ∧ r1 = false ∧ s1 = false) ∨ (r4 = 0 ∧ s4 = 0 ∧ ∃ (kc : Nat) (r : List S47) (all : List (Int × List Int)), code_rising.f k ss = some r ∧ CodF kc 0 r all ∧ r.length ≤ 4611686018427387904 ∧ (∀ x y : ByteArray, ∃ b, strings_HasPrefix.f y x = some b) ∧
      (all.length ≤ 250 → r1 = !(fl1 (strS all all.length) all.length).1 ∧ s1 = !(fl1 (strS all all.length) all.length).2)))
open Classical in
noncomputable def leadtraillaw11_ClashAll.f (k : Nat) (ss : List S47) : Option Bool := if leadtraillaw11_ClashAll.Good k ss then some true else none
theorem leadtraillaw11_ClashAll.calls (k : Nat) (A0 : Option Addr) (c0 : Nat) (ss : List S47) (b : Bool) (w : World) (hr0 : Kd.C k47 w A0 ss.length ss) (hc0 : ss.length ≤ c0) (hf : leadtraillaw11_ClashAll.f k ss = some b) :
    Calls Try.prog 12 #[.agg #[.slice A0 ss.length c0]] w fun e w' => e = .returned (.bool b) ∧ Below w.heap.size w w' := by
  unfold leadtraillaw11_ClashAll.f at hf
  split at hf
  · next h =>
    cases hf
    obtain ⟨r1, r2, r3, r4, s1, s2, s3, s4, h1, h2, h3, ⟨h4, h5, h6, h7⟩ | ⟨h4, h5, kc, r, all, h6, h7, h8, h9, h10⟩⟩ := h
    · subst h5 h6 h7
      exact lawLAll.not k A0 c0 ss r2 r3 s2 s3 _ w hr0 hc0 h4 h1 h2 h3
    · subst h4 h5
      exact lawLAll.walk k kc A0 c0 ss r r1 r2 r3 s1 s2 s3 all w hr0 hc0 h1 h2 h3 h6 h7 h8 h9 h10
  · cases hf
end Go.Proofs.Ytoljcfocgaonpaa.I
end
section
namespace Go.Proofs.Ytoljcfocgaonpaa.I
open Go.RowKit Go.Shelf Go.Proofs.YtoljcfocgaonpaaW.PrintWords Go.Proofs.YtoljcfocgaonpaaW.PrintLast Go.Proofs.YtoljcfocgaonpaaW.PrintMore
set_option linter.unusedVariables false
set_option linter.unusedSimpArgs false
attribute [local go_sem] Oper.semAt_some
attribute [local go_sem] max2_m min2_m max_two min_two max_three min_three max_four min_four
def EnvC (W : World) (b bv bm bn : Nat) (A : Option Addr) (m c : Nat) (early vI : Int) (mo : Bool) (nI : Int) : Prop :=
  W.heap[b]? = some (.cells #[.slice A m c] 69 (0, 0)) ∧ W.heap[b + 1]? = some (.cells #[.int .i64 early] 3 (0, 0)) ∧ W.heap[b + 1 + 1]? = some (.cells #[.bool false] 4 (0, 0)) ∧ W.heap[bv]? = some (.cells #[.int .i64 vI] 3 (0, 0)) ∧ W.heap[bm]? = some (.cells #[.bool mo] 4 (0, 0)) ∧ W.heap[bn]? = some (.cells #[.int .i64 nI] 3 (0, 0))
theorem EnvC.below {W W' : World} {b bv bm bn : Nat} {A : Option Addr} {m c : Nat} {early vI : Int} {mo : Bool} {nI : Int} (h : EnvC W b bv bm bn A m c early vI mo nI) (hb : Below W.heap.size W W') : EnvC W' b bv bm bn A m c early vI mo nI :=
  ⟨blk_below h.1 hb, blk_below h.2.1 hb, blk_below h.2.2.1 hb, blk_below h.2.2.2.1 hb, blk_below h.2.2.2.2.1 hb, blk_below h.2.2.2.2.2 hb⟩
theorem EnvC.cells {W : World} {b bv bm bn : Nat} {A : Option Addr} {m c : Nat} {early vI : Int} {mo : Bool} {nI : Int} (h : EnvC W b bv bm bn A m c early vI mo nI) : W.cell? ⟨b, 0, none⟩ = some (.slice A m c) ∧ W.cell? ⟨b + 1, 0, none⟩ = some (.int .i64 early) ∧ W.cell? ⟨b + 1 + 1, 0, none⟩ = some (.bool false) ∧ W.cell? ⟨bv, 0, none⟩ = some (.int .i64 vI) ∧ W.cell? ⟨bm, 0, none⟩ = some (.bool mo) ∧ W.cell? ⟨bn, 0, none⟩ = some (.int .i64 nI) ∧ W.frozen? ⟨b + 1 + 1, 0, none⟩ = false ∧ W.frozen? ⟨bv, 0, none⟩ = false ∧ W.frozen? ⟨bm, 0, none⟩ = false ∧ W.frozen? ⟨bn, 0, none⟩ = false :=
  ⟨(blk_cell h.1 0).trans rfl, (blk_cell h.2.1 0).trans rfl, (blk_cell h.2.2.1 0).trans rfl, (blk_cell h.2.2.2.1 0).trans rfl, (blk_cell h.2.2.2.2.1 0).trans rfl, (blk_cell h.2.2.2.2.2 0).trans rfl, blk_frozen h.2.2.1 0, blk_frozen h.2.2.2.1 0, blk_frozen h.2.2.2.2.1 0, blk_frozen h.2.2.2.2.2 0⟩
theorem EnvC.moved {W W' : World} {b bv bm bn : Nat} {A : Option Addr} {m c : Nat} {early vI : Int} {mo : Bool} {nI : Int} (h : EnvC W b bv bm bn A m c early vI mo nI) (hk : ∀ k o, W.heap[k]? = some o → k ≤ b + 1 + 1 ∨ k = bv ∨ k = bm ∨ k = bn → W'.heap[k]? = W.heap[k]?) : EnvC W' b bv bm bn A m c early vI mo nI :=
  ⟨(hk _ _ h.1 (by omega)).trans h.1, (hk _ _ h.2.1 (by omega)).trans h.2.1, (hk _ _ h.2.2.1 (by omega)).trans h.2.2.1, (hk _ _ h.2.2.2.1 (by omega)).trans h.2.2.2.1, (hk _ _ h.2.2.2.2.1 (by omega)).trans h.2.2.2.2.1, (hk _ _ h.2.2.2.2.2 (by omega)).trans h.2.2.2.2.2⟩
theorem EnvC.step {W : World} {b bv bm bn : Nat} {A : Option Addr} {m c : Nat} {early vI : Int} {mo : Bool} {nI : Int} (h : EnvC W b bv bm bn A m c early vI mo nI) (h1 : b + 1 + 1 < bv ∧ bv < bm ∧ bm < bn) (v' : Int) (mo' : Bool) (n' : Int) : EnvC (((W.setCell ⟨bv, 0, none⟩ (.int .i64 v')).setCell ⟨bm, 0, none⟩ (.bool mo')).setCell ⟨bn, 0, none⟩ (.int .i64 n')) b bv bm bn A m c early v' mo' n' :=
  ⟨blk_set_far (blk_set_far (blk_set_far h.1 (by omega) _) (by omega) _) (by omega) _, blk_set_far (blk_set_far (blk_set_far h.2.1 (by omega) _) (by omega) _) (by omega) _, blk_set_far (blk_set_far (blk_set_far h.2.2.1 (by omega) _) (by omega) _) (by omega) _, blk_set_far (blk_set_far (blk_set h.2.2.2.1 _) (by omega) _) (by omega) _, blk_set_far (blk_set (blk_set_far h.2.2.2.2.1 (by omega) _) _) (by omega) _, blk_set (blk_set_far (blk_set_far h.2.2.2.2.2 (by omega) _) (by omega) _) _⟩
end Go.Proofs.Ytoljcfocgaonpaa.I
end
section
namespace Go.Proofs.Ytoljcfocgaonpaa.PB3
open Go.RowKit Go.Proofs.YtoljcfocgaonpaaW.PrintWords Go.Proofs.YtoljcfocgaonpaaW.PrintLast Go.Proofs.YtoljcfocgaonpaaW.PrintMore Go.Proofs.Ytoljcfocgaonpaa.I Go.Proofs.LT
set_option linter.unusedVariables false
set_option linter.unusedSimpArgs false
theorem evSucc {α : Type} {g : Nat → Option α} {r : α} (h : Ev (fun k => g (k + 1)) r) : Ev g r := Ev.step (fun _ => rfl) h
theorem evNow {α : Type} (r : α) : Ev (fun _ => some r) r := Ev.now r
theorem w64 {x : Int} (h0 : -9223372036854775808 ≤ x) (h1 : x ≤ 9223372036854775807) : wrap64 x = x := by unfold wrap64; omega
def L133 (x : S133) : Run := (x.f0, x.f1)
def L34 (x : S34) : Run := (x.f0, x.f1)
theorem L34_inj : ∀ {a b : List S34}, a.map L34 = b.map L34 → a = b
 | [], [], _ => rfl
 | [], _ :: _, h => by simp at h
 | _ :: _, [], h => by simp at h
 | ⟨_, _⟩ :: t, ⟨_, _⟩ :: t', h => by
  simp only [List.map_cons, List.cons.injEq, L34, Prod.mk.injEq] at h; obtain ⟨⟨rfl, rfl⟩, h⟩ := h; rw [L34_inj h]
theorem rd133 (pre : List S133) (r : S133) (t : List S133) : rd_T133 (pre ++ r :: t) (pre.length : Int) = r := by simp [rd_T133]
theorem rd34 (pre : List S34) (r : S34) (t : List S34) : rd_T34 (pre ++ r :: t) (pre.length : Int) = r := by simp [rd_T34]
theorem snoc_len {α : Type} (pre : List α) (r : α) : (((pre ++ [r]).length : Nat) : Int) = (pre.length : Int) + 1 := by simp
theorem app_snoc {α : Type} (pre : List α) (r : α) (t : List α) : (pre ++ [r]) ++ t = pre ++ r :: t := by simp
theorem len_cons {α : Type} (pre : List α) (r : α) (t : List α) : (((pre ++ r :: t).length : Nat) : Int) = pre.length + 1 + t.length := by simp; omega
def api_Span_106_c (x : S34) : S133 := ⟨x.f0, x.f1⟩
theorem api_Span_106_loop (N : Nat) (hN : N ≤ 8796093022206) : ∀ (t pre : List S34) (out : List S133), (pre ++ t).length ≤ N → out.length = pre.length → Ev (fun k => api_Span_106.l0 k out (pre ++ t) (((pre ++ t).length : Nat) : Int) (pre.length : Int)) (out ++ t.map api_Span_106_c)
 | [], pre, out, _, _ => by
  refine evSucc ?_; simp only [api_Span_106.l0]; rw [List.append_nil]; simp only [if_neg (show ¬ ((pre.length : Nat) : Int) < ((pre.length : Nat) : Int) by omega)]; simpa using evNow out
 | r :: t, pre, out, hl, ho => by
  have hlc := len_cons pre r t; have hlt : out.length < 8796093022208 := by simp at hl; omega
  have ih := api_Span_106_loop N hN t (pre ++ [r]) (out ++ [api_Span_106_c r]) (by rw [app_snoc]; exact hl) (by simp [ho]); rw [app_snoc, snoc_len] at ih; refine evSucc ?_; have hw : Aside0 (wrap64 ((pre.length : Int) + 1) = (pre.length : Int) + 1) := Aside0.mk (w64 (by omega) (by simp at hl; omega)); have c1 : (pre.length : Int) < ((pre ++ r :: t).length : Nat) := by rw [hlc]; omega
  have c2 : (0 : Int) ≤ pre.length := by omega
  simp only [api_Span_106.l0, if_pos c1, if_pos c2, if_pos hlt, rd34, hw.out]; simpa [api_Span_106_c] using ih
theorem api_Span_106_is (l : List S34) (hl : l.length * 16 ≤ 140737488351232) : Ev (fun k => api_Span_106.f k l) (l.map api_Span_106_c) := by
 have h := api_Span_106_loop l.length (by omega) l [] [] (by simp) rfl; have c1 : (0 : Int) ≤ (l.length : Int) := by omega
 have c2 : ((l.length : Int) : Int).toNat ≤ 17592186044416 := by omega
 simp only [api_Span_106.f, if_pos c1, if_pos c2]; simpa using h
theorem api_Span_106_len (l : List S34) : (l.map api_Span_106_c).map L133 = l.map L34 := by rw [List.map_map]; rfl
def sets_Run_132_c (x : S133) : S34 := ⟨x.f0, x.f1⟩
theorem sets_Run_132_loop (N : Nat) (hN : N ≤ 8796093022206) : ∀ (t pre : List S133) (out : List S34), (pre ++ t).length ≤ N → out.length = pre.length → Ev (fun k => sets_Run_132.l0 k out (pre ++ t) (((pre ++ t).length : Nat) : Int) (pre.length : Int)) (out ++ t.map sets_Run_132_c)
 | [], pre, out, _, _ => by
  refine evSucc ?_; simp only [sets_Run_132.l0]; rw [List.append_nil]; simp only [if_neg (show ¬ ((pre.length : Nat) : Int) < ((pre.length : Nat) : Int) by omega)]; simpa using evNow out
 | r :: t, pre, out, hl, ho => by
  have hlc := len_cons pre r t; have hlt : out.length < 8796093022208 := by simp at hl; omega
  have ih := sets_Run_132_loop N hN t (pre ++ [r]) (out ++ [sets_Run_132_c r]) (by rw [app_snoc]; exact hl) (by simp [ho]); rw [app_snoc, snoc_len] at ih; refine evSucc ?_; have hw : Aside0 (wrap64 ((pre.length : Int) + 1) = (pre.length : Int) + 1) := Aside0.mk (w64 (by omega) (by simp at hl; omega)); have c1 : (pre.length : Int) < ((pre ++ r :: t).length : Nat) := by rw [hlc]; omega
  have c2 : (0 : Int) ≤ pre.length := by omega
  simp only [sets_Run_132.l0, if_pos c1, if_pos c2, if_pos hlt, rd133, hw.out]; simpa [sets_Run_132_c] using ih
theorem sets_Run_132_is (l : List S133) (hl : l.length * 16 ≤ 140737488351232) : Ev (fun k => sets_Run_132.f k l) (l.map sets_Run_132_c) := by
 have h := sets_Run_132_loop l.length (by omega) l [] [] (by simp) rfl; have c1 : (0 : Int) ≤ (l.length : Int) := by omega
 have c2 : ((l.length : Int) : Int).toNat ≤ 17592186044416 := by omega
 simp only [sets_Run_132.f, if_pos c1, if_pos c2]; simpa using h
theorem sets_Run_132_len (l : List S133) : (l.map sets_Run_132_c).map L34 = l.map L133 := by rw [List.map_map]; rfl
theorem valid_loop (N : Nat) (hN : N ≤ 8796093022206) (top : Int) (ht : top ≤ 1073741823) : ∀ (t pre : List S133) (last : Int), (pre ++ t).length ≤ N → Ev (fun k => sets_Valid.l0 k top last (pre ++ t) (((pre ++ t).length : Nat) : Int) (pre.length : Int)) (validB top last (t.map L133))
 | [], pre, last, _ => by
  refine evSucc ?_; simp only [sets_Valid.l0]; rw [List.append_nil]; simp only [if_neg (show ¬ ((pre.length : Nat) : Int) < ((pre.length : Nat) : Int) by omega)]; rw [show validB top last (([] : List S133).map L133) = true from validB_nil _ _]; exact evNow _
 | r :: t, pre, last, hl => by
  have hlc := len_cons pre r t; have ih := valid_loop N hN top ht t (pre ++ [r]) r.f1 (by rw [app_snoc]; exact hl); rw [app_snoc, snoc_len] at ih; refine evSucc ?_; have hw : Aside0 (wrap64 ((pre.length : Int) + 1) = (pre.length : Int) + 1) := Aside0.mk (w64 (by omega) (by simp at hl; omega)); have c1 : (pre.length : Int) < ((pre ++ r :: t).length : Nat) := by rw [hlc]; omega
  have c2 : (0 : Int) ≤ pre.length := by omega
  simp only [sets_Valid.l0, if_pos c1, if_pos c2, rd133, hw.out, List.map_cons, validB_cons, L133]; by_cases d1 : r.f0 < 0
  ·simp only [if_pos d1]; exact evNow _
  by_cases d2 : r.f0 > r.f1
  ·simp only [if_neg d1, if_pos d2]; exact evNow _
  by_cases d3 : r.f1 > top
  ·simp only [if_neg d1, if_neg d2, if_pos d3]; exact evNow _
  have hw2 : Aside0 (wrap64 (r.f0 - 1) = r.f0 - 1) := Aside0.mk (w64 (by omega) (by omega)); simp only [if_neg d1, if_neg d2, if_neg d3, hw2.out]; by_cases d4 : r.f0 - 1 ≤ last
  ·simp only [if_pos d4]; exact evNow _
  ·simp only [if_neg d4]; exact ih
theorem valid_is (top : Int) (ht : top ≤ 1073741823) (l : List S133) (hl : l.length ≤ 8796093022206) : Ev (fun k => sets_Valid.f k l top) (validB top (-2) (l.map L133)) := by
 have h := valid_loop l.length hl top ht l [] (-2) (by simp); simpa [sets_Valid.f] using h
theorem size_loop (N : Nat) (hN : N ≤ 8796093022206) (top : Int) (ht : top ≤ 1073741823) : ∀ (t pre : List S133) (last acc : Int), (pre ++ t).length ≤ N → ValidFrom top last (t.map L133) → 0 ≤ acc → acc + size (t.map L133) ≤ 4294967296 →
 Ev (fun k => sets_Size.l0 k acc (pre ++ t) (((pre ++ t).length : Nat) : Int) (pre.length : Int)) (acc + size (t.map L133))
 | [], pre, last, acc, _, _, _, _ => by
  refine evSucc ?_; simp only [sets_Size.l0]; rw [List.append_nil]; simp only [if_neg (show ¬ ((pre.length : Nat) : Int) < ((pre.length : Nat) : Int) by omega)]; simpa [size_nil] using evNow acc
 | r :: t, pre, last, acc, hl, hv, h0, h1 => by
  have hlc := len_cons pre r t; have hs := size_nonneg hv.2.2.2.2; have e1 : size ((r :: t).map L133) = (r.f1 - r.f0 + 1) + size (t.map L133) := size_cons _ _; have v0 : 0 ≤ r.f0 := hv.1; have v1 : r.f0 ≤ r.f1 := hv.2.1; have v2 : r.f1 ≤ top := hv.2.2.1; have ih := size_loop N hN top ht t (pre ++ [r]) r.f1 (acc + (r.f1 - r.f0 + 1)) (by rw [app_snoc]; exact hl) hv.2.2.2.2 (by omega) (by omega); rw [app_snoc, snoc_len] at ih; refine evSucc ?_; have hw : Aside0 (wrap64 ((pre.length : Int) + 1) = (pre.length : Int) + 1) := Aside0.mk (w64 (by omega) (by simp at hl; omega)); have c1 : (pre.length : Int) < ((pre ++ r :: t).length : Nat) := by rw [hlc]; omega
  have c2 : (0 : Int) ≤ pre.length := by omega
  have w1 : Aside0 (wrap64 (r.f1 - r.f0) = r.f1 - r.f0) := Aside0.mk (w64 (by omega) (by omega)); have w2 : Aside0 (wrap64 (r.f1 - r.f0 + 1) = r.f1 - r.f0 + 1) := Aside0.mk (w64 (by omega) (by omega)); have w3 : Aside0 (wrap64 (acc + (r.f1 - r.f0 + 1)) = acc + (r.f1 - r.f0 + 1)) := Aside0.mk (w64 (by omega) (by omega)); simp only [sets_Size.l0, if_pos c1, if_pos c2, rd133, hw.out, w1.out, w2.out, w3.out]; have e2 : acc + size ((r :: t).map L133) = acc + (r.f1 - r.f0 + 1) + size (t.map L133) := by omega
  rw [e2]; exact ih
theorem size_is (top : Int) (ht : top ≤ 1073741823) (l : List S133) (hl : l.length ≤ 8796093022206) (hv : ValidFrom top (-2) (l.map L133)) : Ev (fun k => sets_Size.f k l) (size (l.map L133)) := by
 have h0 : (0:Int) ≤ top ∨ l = [] := by
  cases l with
  | nil => exact .inr rfl
  | cons r t => have := hv.1; have := hv.2.1; have := hv.2.2.1; exact .inl (by omega)
 have hs : size (l.map L133) ≤ 4294967296 := by
  rcases h0 with h0 | rfl
  ·have := size_le hv h0; omega
  ·simp [size_nil]
 have h := size_loop l.length hl top ht l [] (-2) 0 (by simp) hv (by omega) (by omega); simpa [sets_Size.f] using h
def rankL (l : List Run) (x : Int) : Int × Bool := if memB l x = true then ((cd (memB l) x.toNat : Int), true) else (0, false)
theorem rank_loop (N : Nat) (hN : N ≤ 8796093022206) (top : Int) (ht : top ≤ 1073741823) (x : Int) (hx : (Lit.int .i64 x).wf = true) : ∀ (t pre : List S133) (last acc : Int), (pre ++ t).length ≤ N → ValidFrom top last (t.map L133) → 0 ≤ acc → acc + size (t.map L133) ≤ 4294967296 →
 Ev (fun k => sets_Rank.l0 k x acc (pre ++ t) (((pre ++ t).length : Nat) : Int) (pre.length : Int)) (if memB (t.map L133) x = true then (acc + (cd (memB (t.map L133)) x.toNat : Int), true) else (0, false))
 | [], pre, last, acc, _, _, _, _ => by
  refine evSucc ?_; simp only [sets_Rank.l0]; rw [List.append_nil]; simp only [if_neg (show ¬ ((pre.length : Nat) : Int) < ((pre.length : Nat) : Int) by omega)]; simpa [memB] using evNow ((0 : Int), false)
 | r :: t, pre, last, acc, hl, hv, h0, h1 => by
  have hlc := len_cons pre r t; have hs := size_nonneg hv.2.2.2.2; have e1 : size ((r :: t).map L133) = (r.f1 - r.f0 + 1) + size (t.map L133) := size_cons _ _; have v0 : 0 ≤ r.f0 := hv.1; have v1 : r.f0 ≤ r.f1 := hv.2.1; have v2 : r.f1 ≤ top := hv.2.2.1; have ih := rank_loop N hN top ht x hx t (pre ++ [r]) r.f1 (acc + (r.f1 - r.f0 + 1)) (by rw [app_snoc]; exact hl) hv.2.2.2.2 (by omega) (by omega); rw [app_snoc, snoc_len] at ih; refine evSucc ?_; have hw : Aside0 (wrap64 ((pre.length : Int) + 1) = (pre.length : Int) + 1) := Aside0.mk (w64 (by omega) (by simp at hl; omega)); have c1 : (pre.length : Int) < ((pre ++ r :: t).length : Nat) := by rw [hlc]; omega
  have c2 : (0 : Int) ≤ pre.length := by omega
  have w1 : Aside0 (wrap64 (r.f1 - r.f0) = r.f1 - r.f0) := Aside0.mk (w64 (by omega) (by omega)); have w2 : Aside0 (wrap64 (r.f1 - r.f0 + 1) = r.f1 - r.f0 + 1) := Aside0.mk (w64 (by omega) (by omega)); have w3 : Aside0 (wrap64 (acc + (r.f1 - r.f0 + 1)) = acc + (r.f1 - r.f0 + 1)) := Aside0.mk (w64 (by omega) (by omega)); simp only [sets_Rank.l0, if_pos c1, if_pos c2, rd133, hw.out, w1.out, w2.out, w3.out]; have hm : (L133 r).1 = r.f0 ∧ (L133 r).2 = r.f1 := ⟨rfl, rfl⟩; by_cases d1 : x < r.f0
  ·simp only [if_pos d1]; have : ¬ memB ((r :: t).map L133) x = true := fun h => by
    rcases mem_cons.1 (memB_iff.1 h) with h | h
    ·have := h.1; simp only [hm.1] at this; omega
    ·have := ValidFrom.gt hv.2.2.2.2 h; simp only [hm.2] at this; omega
   rw [if_neg this]; exact evNow _
  by_cases d2 : x ≤ r.f1
  ·have w4 : Aside0 (wrap64 (acc + x) = acc + x) := Aside0.mk (w64 (by omega) (by omega)); have w5 : Aside0 (wrap64 (acc + x - r.f0) = acc + x - r.f0) := Aside0.mk (w64 (by omega) (by omega)); simp only [if_neg d1, if_pos d2, w4.out, w5.out]; have h : memB ((r :: t).map L133) x = true := memB_iff.2 (mem_cons.2 (.inl ⟨by simp only [hm.1]; omega, by simp only [hm.2]; omega⟩)); have hc := cd_in_first (x := x) (show ValidFrom top last (L133 r :: t.map L133) from hv) (by simp only [hm.1]; omega) (by simp only [hm.2]; omega); rw [if_pos h, List.map_cons, hc, hm.1, show acc + (x - r.f0) = acc + x - r.f0 by omega]; exact evNow _
  ·simp only [if_neg d1, if_neg d2]; have hc := cd_past_first (x := x) (show ValidFrom top last (L133 r :: t.map L133) from hv) (by simp only [hm.2]; omega); have e2 : memB ((r :: t).map L133) x = memB (t.map L133) x := memB_eq ⟨fun h => by
    rcases mem_cons.1 h with h | h
    ·have := h.2; simp only [hm.2] at this; omega
    ·exact h, fun h => mem_cons.2 (.inr h)⟩
   have e3 : acc + (cd (memB ((r :: t).map L133)) x.toNat : Int) = acc + (r.f1 - r.f0 + 1) + (cd (memB (t.map L133)) x.toNat : Int) := by rw [List.map_cons, hc, hm.1, hm.2]; omega
   rw [e2, e3]; exact ih
theorem valid_top {top : Int} {l : List Run} (hv : ValidFrom top (-2) l) (ht : top ≤ 1073741823) : size l ≤ 4294967296 := by
 cases l with
 | nil => simp [size_nil]
 | cons r t => have := hv.1; have := hv.2.1; have := hv.2.2.1; have := size_le hv (by omega); omega
theorem rank_is (top : Int) (ht : top ≤ 1073741823) (l : List S133) (x : Int) (hx : (Lit.int .i64 x).wf = true) (hl : l.length ≤ 8796093022206) (hv : ValidFrom top (-2) (l.map L133)) : Ev (fun k => sets_Rank.f k l x) (rankL (l.map L133) x) := by
 have h := rank_loop l.length hl top ht x hx l [] (-2) 0 (by simp) hv (by omega) (by have := valid_top hv ht; omega); simpa [sets_Rank.f, rankL] using h
def Sel (l : List Run) (k : Int) (r : Int × Bool) : Prop := (∃ x, Mem l x ∧ (cd (memB l) x.toNat : Int) = k ∧ r = (x, true)) ∨ ((k < 0 ∨ size l ≤ k) ∧ r = (0, false))
theorem Sel.uniq {top : Int} {l : List Run} (hv : ValidFrom top (-2) l) {k : Int} {r q : Int × Bool} (h : Sel l k r) (h' : Sel l k q) : r = q := by
 have lt : ∀ x, Mem l x → (cd (memB l) x.toNat : Int) < size l := fun x hx => by
  have hr := hv.range hx; have := cd_size (n := top.toNat + 1) hv (by omega); have e : ((x.toNat : Nat) : Int) = x := Int.toNat_of_nonneg hr.1; have := cd_lt (memB l) (m := x.toNat) (n := top.toNat + 1) (by omega) (by rw [e]; exact memB_iff.2 hx); omega
 rcases h with ⟨x, hx, hk, rfl⟩ | ⟨hk, rfl⟩ <;> rcases h' with ⟨y, hy, hk', rfl⟩ | ⟨hk', rfl⟩
 ·have ex : ((x.toNat : Nat) : Int) = x := Int.toNat_of_nonneg (hv.range hx).1; have ey : ((y.toNat : Nat) : Int) = y := Int.toNat_of_nonneg (hv.range hy).1; have := cd_inj (memB l) (m := x.toNat) (n := y.toNat) (by rw [ex]; exact memB_iff.2 hx) (by rw [ey]; exact memB_iff.2 hy) (by omega); rw [show x = y by omega]
 ·have := lt x hx; omega
 ·have := lt y hy; omega
 ·rfl
theorem select_loop (N : Nat) (hN : N ≤ 8796093022206) (top : Int) (ht : top ≤ 1073741823) : ∀ (t pre : List S133) (last kk : Int), (pre ++ t).length ≤ N → ValidFrom top last (t.map L133) → 0 ≤ kk → kk ≤ 9223372036854775807 →
 ∃ r, Ev (fun k => sets_Select.l0 k kk (pre ++ t) (((pre ++ t).length : Nat) : Int) (pre.length : Int)) r ∧ Sel (t.map L133) kk r
 | [], pre, last, kk, _, _, h0, _ => by
  refine ⟨(0, false), evSucc ?_, .inr ⟨.inr (by simpa [size_nil] using h0), rfl⟩⟩; simp only [sets_Select.l0]; rw [List.append_nil]; simp only [if_neg (show ¬ ((pre.length : Nat) : Int) < ((pre.length : Nat) : Int) by omega)]; exact evNow _
 | r :: t, pre, last, kk, hl, hv, h0, h1 => by
  have hlc := len_cons pre r t; have v0 : 0 ≤ r.f0 := hv.1; have v1 : r.f0 ≤ r.f1 := hv.2.1; have v2 : r.f1 ≤ top := hv.2.2.1; have hm : (L133 r).1 = r.f0 ∧ (L133 r).2 = r.f1 := ⟨rfl, rfl⟩; have hw : Aside0 (wrap64 ((pre.length : Int) + 1) = (pre.length : Int) + 1) := Aside0.mk (w64 (by omega) (by simp at hl; omega)); have c1 : (pre.length : Int) < ((pre ++ r :: t).length : Nat) := by rw [hlc]; omega
  have c2 : (0 : Int) ≤ pre.length := by omega
  have w1 : Aside0 (wrap64 (r.f1 - r.f0) = r.f1 - r.f0) := Aside0.mk (w64 (by omega) (by omega)); have w2 : Aside0 (wrap64 (r.f1 - r.f0 + 1) = r.f1 - r.f0 + 1) := Aside0.mk (w64 (by omega) (by omega)); by_cases d1 : kk ≤ r.f1 - r.f0
  ·have w3 : Aside0 (wrap64 (r.f0 + kk) = r.f0 + kk) := Aside0.mk (w64 (by omega) (by omega)); refine ⟨(r.f0 + kk, true), evSucc ?_, .inl ⟨r.f0 + kk, mem_cons.2 (.inl ⟨by simp only [hm.1]; omega, by simp only [hm.2]; omega⟩), ?_, rfl⟩⟩
   ·simp only [sets_Select.l0, if_pos c1, if_pos c2, rd133, hw.out, w1.out, w2.out, w3.out, if_pos d1]; exact evNow _
   ·have hc := cd_in_first (x := r.f0 + kk) (show ValidFrom top last (L133 r :: t.map L133) from hv) (by simp only [hm.1]; omega) (by simp only [hm.2]; omega); rw [List.map_cons, hc, hm.1]; omega
  ·have w3 : Aside0 (wrap64 (kk - (r.f1 - r.f0 + 1)) = kk - (r.f1 - r.f0 + 1)) := Aside0.mk (w64 (by omega) (by omega)); obtain ⟨q, hq, hs⟩ := select_loop N hN top ht t (pre ++ [r]) r.f1 (kk - (r.f1 - r.f0 + 1)) (by rw [app_snoc]; exact hl) hv.2.2.2.2 (by omega) (by omega); rw [app_snoc, snoc_len] at hq; refine ⟨q, evSucc ?_, ?_⟩
   ·simp only [sets_Select.l0, if_pos c1, if_pos c2, rd133, hw.out, w1.out, w2.out, w3.out, if_neg d1]; exact hq
   ·rcases hs with ⟨x, hx, hk, rfl⟩ | ⟨hk, rfl⟩
    ·have hg := ValidFrom.gt hv.2.2.2.2 hx; rw [hm.2] at hg; refine .inl ⟨x, mem_cons.2 (.inr hx), ?_, rfl⟩; have hc := cd_past_first (x := x) (show ValidFrom top last (L133 r :: t.map L133) from hv) (by simp only [hm.2]; omega); rw [List.map_cons, hc, hk, hm.1, hm.2]; omega
    ·have e1 : size ((r :: t).map L133) = (r.f1 - r.f0 + 1) + size (t.map L133) := size_cons _ _; exact .inr ⟨.inr (by omega), rfl⟩
theorem select_is (top : Int) (ht : top ≤ 1073741823) (l : List S133) (kk : Int) (hk : (Lit.int .i64 kk).wf = true) (hl : l.length ≤ 8796093022206) (hv : ValidFrom top (-2) (l.map L133)) : ∃ r, Ev (fun k => sets_Select.f k l kk) r ∧ Sel (l.map L133) kk r := by
 by_cases h0 : kk < 0
 ·exact ⟨(0, false), by simp only [sets_Select.f, if_pos h0]; exact evNow _, .inr ⟨.inl h0, rfl⟩⟩
 ·have hb := bounds_i64 hk; obtain ⟨r, hr, hs⟩ := select_loop l.length hl top ht l [] (-2) kk (by simp) hv (by omega) (by omega); exact ⟨r, by simp only [sets_Select.f, if_neg h0]; simpa using hr, hs⟩
theorem mx_eq (a b : Int) : mx a b = max a b := by unfold mx; omega
theorem mn_eq (a b : Int) : mn a b = min a b := by unfold mn; omega
theorem norm_loop (N : Nat) (hN : N ≤ 8796093022206) (top : Int) (ht : top ≤ 1073741823) : ∀ (t pre o : List S133) (q : S133), (pre ++ t).length ≤ N → o.length + t.length + 1 ≤ N → (∀ r ∈ t, q.f0 ≤ r.f0) → t.Pairwise (fun x y => x.f0 ≤ y.f0) → (∀ r ∈ q :: t, 0 ≤ r.f0 ∧ r.f0 ≤ r.f1 ∧ r.f1 ≤ top) →
 ∃ m, Ev (fun k => sets_Norm.l0 k (pre ++ t) (o ++ [q]) (((pre ++ t).length : Nat) : Int) (pre.length : Int)) (o ++ m, pre ++ t) ∧ m.length ≤ t.length + 1 ∧ (∀ last, last < q.f0 - 1 → ValidFrom top last (m.map L133)) ∧ ∀ x, Mem (m.map L133) x ↔ Mem ((q :: t).map L133) x
 | [], pre, o, q, _, _, _, _, hr => by
  have hq := hr q List.mem_cons_self; refine ⟨[q], evSucc ?_, by simp, fun last hlast => ⟨hq.1, hq.2.1, hq.2.2, hlast, trivial⟩, fun x => Iff.rfl⟩; simp only [sets_Norm.l0]; rw [List.append_nil]; simp only [if_neg (show ¬ ((pre.length : Nat) : Int) < ((pre.length : Nat) : Int) by omega)]; exact evNow _
 | r :: t, pre, o, q, hl, ho, hs, hp, hr => by
  have hq := hr q List.mem_cons_self; have hr1 := hr r (List.mem_cons_of_mem _ List.mem_cons_self); have hqr := hs r List.mem_cons_self; have hp' := List.pairwise_cons.1 hp; have hlc := len_cons pre r t; have hw : Aside0 (wrap64 ((pre.length : Int) + 1) = (pre.length : Int) + 1) := Aside0.mk (w64 (by omega) (by simp at hl; omega)); have c1 : (pre.length : Int) < ((pre ++ r :: t).length : Nat) := by rw [hlc]; omega
  have c2 : (0 : Int) ≤ pre.length := by omega
  have ol : (((o ++ [q]).length : Nat) : Int) = (o.length : Int) + 1 := snoc_len o q; have hob : (o.length : Int) ≤ 8796093022207 := by omega
  have c3 : (((o ++ [q]).length : Nat) : Int) > 0 := by omega
  have w1 : Aside0 (wrap64 ((((o ++ [q]).length : Nat) : Int) - 1) = (o.length : Int)) := Aside0.mk (by rw [ol, w64 (by omega) (by omega)]; omega); have c4 : (0 : Int) ≤ (o.length : Int) := by omega
  have c5 : (o.length : Int) < (((o ++ [q]).length : Nat) : Int) := by omega
  have r1 : rd_T133 (o ++ [q]) (o.length : Int) = q := rd133 o q []; have w2 : Aside0 (wrap64 (q.f1 + 1) = q.f1 + 1) := Aside0.mk (w64 (by omega) (by omega)); have hlt : (o ++ [q]).length < 8796093022208 := by simp at ho ⊢; omega
  by_cases d : r.f0 ≤ q.f1 + 1
  ·obtain ⟨m, g1, g2, g3, g4⟩ := norm_loop N hN top ht t (pre ++ [r]) o ⟨q.f0, max q.f1 r.f1⟩ (by rw [app_snoc]; exact hl) (by simp at ho ⊢; omega) (fun z hz => Int.le_trans hqr (hp'.1 z hz)) hp'.2 (fun z hz => by
    rcases List.mem_cons.1 hz with rfl | hz
    ·exact ⟨hq.1, by show q.f0 ≤ max q.f1 r.f1; omega, by show max q.f1 r.f1 ≤ top; omega⟩
    ·exact hr z (List.mem_cons_of_mem _ (List.mem_cons_of_mem _ hz)))
   rw [app_snoc, snoc_len] at g1; refine ⟨m, evSucc ?_, by simp; omega, g3, fun x => ?_⟩
   ·simp only [sets_Norm.l0, if_pos c1, if_pos c2, rd133, hw.out, if_pos c3, w1.out, if_pos c4, if_pos c5, r1, w2.out, if_pos d, mx_eq]; have : (o ++ [q]).set (o.length : Int).toNat (⟨q.f0, max q.f1 r.f1⟩ : S133) = o ++ [⟨q.f0, max q.f1 r.f1⟩] := by simp
    rw [this]; exact g1
   ·rw [g4 x]; simp only [List.map_cons, mem_cons]; show (q.f0 ≤ x ∧ x ≤ max q.f1 r.f1) ∨ _ ↔ (q.f0 ≤ x ∧ x ≤ q.f1) ∨ (r.f0 ≤ x ∧ x ≤ r.f1) ∨ _; constructor
    ·rintro (h | h)
     ·by_cases e : x ≤ q.f1
      ·exact .inl (by omega)
      ·exact .inr (.inl (by omega))
     ·exact .inr (.inr h)
    ·rintro (h | h | h)
     ·exact .inl (by omega)
     ·exact .inl (by omega)
     ·exact .inr h
  ·obtain ⟨m, g1, g2, g3, g4⟩ := norm_loop N hN top ht t (pre ++ [r]) (o ++ [q]) r (by rw [app_snoc]; exact hl) (by simp at ho ⊢; omega) hp'.1 hp'.2 (fun z hz => hr z (List.mem_cons_of_mem _ hz)); rw [app_snoc, snoc_len] at g1; refine ⟨q :: m, evSucc ?_, by simp; omega, fun last hlast => ⟨hq.1, hq.2.1, hq.2.2, hlast, g3 _ (by show q.f1 < _; omega)⟩, fun x => ?_⟩
   ·simp only [sets_Norm.l0, if_pos c1, if_pos c2, rd133, hw.out, if_pos c3, w1.out, if_pos c4, if_pos c5, r1, w2.out, if_neg d, if_pos hlt]; simpa using g1
   ·rw [List.map_cons, mem_cons, g4 x]; exact mem_cons.symm
theorem norm_is (top : Int) (ht : top ≤ 1073741823) (l : List S133) (hl : l.length ≤ 8796093022206) (hr : ∀ r ∈ l, 0 ≤ r.f0 ∧ r.f0 ≤ r.f1 ∧ r.f1 ≤ top) :
 ∃ m s, Ev (fun k => sets_Norm.f k l) (m, s) ∧ m.length ≤ l.length ∧ ValidFrom top (-2) (m.map L133) ∧ ∀ x, Mem (m.map L133) x ↔ Mem (l.map L133) x := by
 obtain ⟨s, hs⟩ : ∃ s, sortRun.f l = some s := ⟨_, by unfold sortRun.f; rw [if_pos (show l.length < 8796093022208 by omega)]⟩
 obtain ⟨hp, hsort⟩ := sortRun.spec l s hs; have hlen := hp.length_eq; have hmem : ∀ x, Mem (s.map L133) x ↔ Mem (l.map L133) x := fun x => mem_perm (hp.map _)
 cases s with
 | nil =>
  refine ⟨[], [], ?_, by simp, trivial, hmem⟩; simp only [sets_Norm.f, hs, Option.bind_some]; refine evSucc ?_; simp only [sets_Norm.l0, ← hlen]; simp only [List.length_nil, if_neg (show ¬ (0 : Int) < ((0 : Nat) : Int) by omega)]; exact evNow _
 | cons q t =>
  have hr' : ∀ r ∈ q :: t, 0 ≤ r.f0 ∧ r.f0 ≤ r.f1 ∧ r.f1 ≤ top := fun r h => hr r (hp.mem_iff.1 h)
  have hsp := List.pairwise_cons.1 hsort; obtain ⟨m, g1, g2, g3, g4⟩ := norm_loop (q :: t).length (by omega) top ht t [q] [] q (by simp) (by simp) hsp.1 hsp.2 hr'; have hq := hr' q List.mem_cons_self; refine ⟨m, q :: t, ?_, by rw [← hlen]; simpa using g2, g3 _ (by omega), fun x => (g4 x).trans (hmem x)⟩; simp only [sets_Norm.f, hs, Option.bind_some, ← hlen]; refine evSucc ?_; have c1 : (0 : Int) < (((q :: t).length : Nat) : Int) := by rw [List.length_cons]; omega
  have r1 : rd_T133 (q :: t) 0 = q := rfl; have hw : Aside0 (wrap64 ((0 : Int) + 1) = 1) := Aside0.mk (by rw [w64 (by omega) (by omega)]; rfl); simp only [sets_Norm.l0, if_pos c1, if_pos (show (0 : Int) ≤ 0 by omega), r1, List.length_nil, if_neg (show ¬ ((0 : Nat) : Int) > 0 by omega), if_pos (show (0 : Nat) < 8796093022208 from Nat.zero_lt_succ _), hw.out]; exact g1
def setL (top : Int) (l : List Run) : List Run := if validB top (-2) l = true then l else []
theorem setL_valid (top : Int) (l : List Run) : ValidFrom top (-2) (setL top l) := by
 unfold setL; split
 ·rename_i h; exact (validB_iff _ _ _).1 h
 ·trivial
theorem setL_of {top : Int} {l : List Run} (h : ValidFrom top (-2) l) : setL top l = l := by unfold setL; rw [if_pos ((validB_iff _ _ _).2 h)]
theorem valid_len {top : Int} : ∀ {l : List Run} {last : Int}, ValidFrom top last l → (l.length : Int) ≤ size l
 | [], _, _ => by simp [size_nil]
 | r :: t, _, hv => by
  have := valid_len hv.2.2.2.2; have := hv.2.1; rw [size_cons]; simp; omega
theorem valid_len' {top : Int} {l : List Run} {last : Int} (hv : ValidFrom top last l) (h0 : 0 ≤ top) (ht : top ≤ 1073741823) : l.length ≤ 1073741824 := by
 have := valid_len hv; have := size_le hv h0; omega
theorem spans_set_is (l : List S34) (hl : l.length * 16 ≤ 140737488351232) : ∃ s, Ev (fun k => spans_set.f k l) s ∧ s.map L133 = setL 255 (l.map L34) := by
 have h1 := api_Span_106_is l hl; have h2 := valid_is 255 (by omega) (l.map api_Span_106_c) (by simp; omega); rw [api_Span_106_len] at h2; by_cases d : validB 255 (-2) (l.map L34) = true
 ·refine ⟨l.map api_Span_106_c, Ev.bind h1 (Ev.bind h2 ?_), by rw [api_Span_106_len]; unfold setL; rw [if_pos d]⟩; simp only [if_pos d]; exact evNow _
 ·refine ⟨[], Ev.bind h1 (Ev.bind h2 ?_), by unfold setL; rw [if_neg d]; rfl⟩; simp only [if_neg d]; exact evNow _
theorem spans_back_is (l : List S133) (hl : l.length * 16 ≤ 140737488351232) : Ev (fun k => spans_back.f k l) (l.map sets_Run_132_c) := Ev.bind (sets_Run_132_is l hl) (evNow _)
theorem spans_set_facts {l : List S34} {s : List S133} (h : s.map L133 = setL 255 (l.map L34)) : ValidFrom 255 (-2) (s.map L133) ∧ s.length ≤ 1073741824 := by
 have hv : ValidFrom 255 (-2) (s.map L133) := by rw [h]; exact setL_valid _ _
 have := valid_len' hv (by omega) (by omega); exact ⟨hv, by simpa using this⟩
theorem spans_Size_is (l : List S34) (hl : l.length * 16 ≤ 140737488351232) : Ev (fun k => spans_Size.f k l) (size (setL 255 (l.map L34))) := by
 obtain ⟨s, h1, h2⟩ := spans_set_is l hl; obtain ⟨hv, hn⟩ := spans_set_facts h2; have h3 := size_is 255 (by omega) s (by omega) hv; rw [h2] at h3; exact Ev.bind h1 (Ev.bind h3 (evNow _))
theorem spans_Rank_is (l : List S34) (x : Int) (hx : (Lit.int .i64 x).wf = true) (hl : l.length * 16 ≤ 140737488351232) : Ev (fun k => spans_Rank.f k l x) (rankL (setL 255 (l.map L34)) x) := by
 obtain ⟨s, h1, h2⟩ := spans_set_is l hl; obtain ⟨hv, hn⟩ := spans_set_facts h2; have h3 := rank_is 255 (by omega) s x hx (by omega) hv; rw [h2] at h3; exact Ev.bind h1 (Ev.bind h3 (evNow _))
theorem spans_Select_is (l : List S34) (kk : Int) (hk : (Lit.int .i64 kk).wf = true) (hl : l.length * 16 ≤ 140737488351232) : ∃ r, Ev (fun k => spans_Select.f k l kk) r ∧ Sel (setL 255 (l.map L34)) kk r := by
 obtain ⟨s, h1, h2⟩ := spans_set_is l hl; obtain ⟨hv, hn⟩ := spans_set_facts h2; obtain ⟨r, h3, h4⟩ := select_is 255 (by omega) s kk hk (by omega) hv; rw [h2] at h4; exact ⟨r, Ev.bind h1 (Ev.bind h3 (evNow _)), h4⟩
def spans_IsSet (l : List S34) (p : Int → Prop) : Prop := ValidFrom 255 (-2) (l.map L34) ∧ l.length ≤ 1073741824 ∧ ∀ x, Mem (l.map L34) x ↔ p x
theorem spans_IsSet.uniq {a b : List S34} {p q : Int → Prop} (ha : spans_IsSet a p) (hb : spans_IsSet b q) (h : ∀ x, p x ↔ q x) : a = b :=
 L34_inj (canon 255 _ _ _ _ ha.1 hb.1 fun x => (ha.2.2 x).trans ((h x).trans (hb.2.2 x).symm))
theorem spans_out {m : List S133} {p : Int → Prop} (hv : ValidFrom 255 (-2) (m.map L133)) (hm : ∀ x, Mem (m.map L133) x ↔ p x) : ∃ r, Ev (fun k => spans_back.f k m) r ∧ spans_IsSet r p := by
 have hn := valid_len' hv (by omega) (by omega); have e := sets_Run_132_len m; refine ⟨_, spans_back_is m (by simp at hn; omega), ?_, ?_, fun x => ?_⟩
 ·rw [e]; exact hv
 ·simpa using hn
 ·rw [e]; exact hm x
end Go.Proofs.Ytoljcfocgaonpaa.PB3
end
section
namespace Go.Proofs.Ytoljcfocgaonpaa.PB3
open Go.RowKit Go.Proofs.YtoljcfocgaonpaaW.PrintWords Go.Proofs.YtoljcfocgaonpaaW.PrintLast Go.Proofs.YtoljcfocgaonpaaW.PrintMore Go.Proofs.Ytoljcfocgaonpaa.I Go.Proofs.LT
set_option linter.unusedVariables false
set_option linter.unusedSimpArgs false
theorem meet_loop (N : Nat) (hN : N ≤ 8796093022206) (top : Int) (ht : top ≤ 1073741823) : ∀ (n : Nat) (a b out : List S133) (la lb : Int), a.length + b.length = n → out.length + a.length + b.length ≤ N → ValidFrom top la (a.map L133) → ValidFrom top lb (b.map L133) →
 ∃ m, Ev (fun k => sets_Meet.l0 k a b out) (out ++ m) ∧ m.length ≤ a.length + b.length ∧ ValidFrom top (max la lb) (m.map L133) ∧ ∀ x, Mem (m.map L133) x ↔ Mem (a.map L133) x ∧ Mem (b.map L133) x
 | n, [], b, out, la, lb, _, _, _, _ => by
  refine ⟨[], evSucc (evSucc ?_), by simp, trivial, fun x => ⟨fun h => (Mem.nil h).elim, fun h => (Mem.nil h.1).elim⟩⟩; simp only [sets_Meet.l0, List.length_nil]; simp only [if_neg (show ¬ ((0 : Nat) : Int) > 0 by omega), sets_Meet.j1]; simpa using evNow out
 | n, x :: a, [], out, la, lb, _, _, _, _ => by
  refine ⟨[], evSucc (evSucc ?_), by simp, trivial, fun x => ⟨fun h => (Mem.nil h).elim, fun h => (Mem.nil h.2).elim⟩⟩; simp only [sets_Meet.l0, List.length_nil, List.length_cons]; simp only [if_pos (show ((a.length + 1 : Nat) : Int) > 0 by omega), show decide (((0 : Nat) : Int) > 0) = false by decide, sets_Meet.j1]; simpa using evNow out
 | n, x :: a, y :: b, out, la, lb, hn, hl, ha, hb => by
  obtain ⟨a0, a1, a2, a3, a4⟩ := ha; obtain ⟨b0, b1, b2, b3, b4⟩ := hb; have ex : (L133 x).1 = x.f0 ∧ (L133 x).2 = x.f1 := ⟨rfl, rfl⟩; have ey : (L133 y).1 = y.f0 ∧ (L133 y).2 = y.f1 := ⟨rfl, rfl⟩; have c1 : ((((x :: a).length : Nat) : Int) > 0) := by rw [List.length_cons]; omega
  have c2 : decide ((((y :: b).length : Nat) : Int) > 0) = true := by rw [List.length_cons]; exact decide_eq_true (by omega)
  have c3 : (0 : Int) < (((x :: a).length : Nat) : Int) := c1; have c4 : (0 : Int) < (((y :: b).length : Nat) : Int) := by rw [List.length_cons]; omega
  have c5 : (1 : Int) ≤ (((x :: a).length : Nat) : Int) := by omega
  have c6 : (1 : Int) ≤ (((y :: b).length : Nat) : Int) := by omega
  have r1 : rd_T133 (x :: a) 0 = x := rfl; have r2 : rd_T133 (y :: b) 0 = y := rfl; have hlo : out.length < 8796093022208 := by simp at hl; omega
  simp only [ex.1, ex.2, ey.1, ey.2] at a0 a1 a2 a3 b0 b1 b2 b3; have main : ∀ (out' : List S133) (n' : Nat), out'.length + a.length + b.length + 1 ≤ N →
   ∃ m, Ev (fun k => if x.f1 < y.f1 then (if (1 : Int) ≤ (((x :: a).length : Nat) : Int) then sets_Meet.l0 k ((x :: a).drop 1) (y :: b) out' else none) else (if (1 : Int) ≤ (((y :: b).length : Nat) : Int) then sets_Meet.l0 k (x :: a) ((y :: b).drop 1) out' else none)) (out' ++ m) ∧ m.length ≤ a.length + b.length + 1 ∧ ValidFrom top (if x.f1 < y.f1 then max x.f1 lb else max la y.f1) (m.map L133) ∧
    ∀ z, Mem (m.map L133) z ↔ (if x.f1 < y.f1 then Mem (a.map L133) z ∧ Mem ((y :: b).map L133) z else Mem ((x :: a).map L133) z ∧ Mem (b.map L133) z) := fun out' n' hl' => by
   by_cases d : x.f1 < y.f1
   ·obtain ⟨m, h1, h2, h3, h4⟩ := meet_loop N hN top ht (a.length + (y :: b).length) a (y :: b) out' x.f1 lb rfl (by simp; omega) a4 ⟨b0, b1, b2, b3, b4⟩; refine ⟨m, ?_, by simp at h2; omega, by rw [if_pos d]; exact h3, fun z => by rw [if_pos d]; exact h4 z⟩; simp only [if_pos d, if_pos c5, List.drop_one, List.tail_cons]; exact h1
   ·obtain ⟨m, h1, h2, h3, h4⟩ := meet_loop N hN top ht ((x :: a).length + b.length) (x :: a) b out' la y.f1 rfl (by simp; omega) ⟨a0, a1, a2, a3, a4⟩ b4; refine ⟨m, ?_, by simp at h2; omega, by rw [if_neg d]; exact h3, fun z => by rw [if_neg d]; exact h4 z⟩; simp only [if_neg d, if_pos c6, List.drop_one, List.tail_cons]; exact h1
  by_cases d0 : max x.f0 y.f0 ≤ min x.f1 y.f1
  ·obtain ⟨m, h1, h2, h3, h4⟩ := main (out ++ [⟨max x.f0 y.f0, min x.f1 y.f1⟩]) 0 (by simp at hl ⊢; omega); refine ⟨⟨max x.f0 y.f0, min x.f1 y.f1⟩ :: m, evSucc (evSucc ?_), by simp; omega, ?_, fun z => ?_⟩
   ·simp only [sets_Meet.l0, if_pos c1, c2, sets_Meet.j1, if_true, if_pos c3, if_pos c4, r1, r2, mx_eq, mn_eq, if_pos d0, if_pos hlo, Option.bind_some]; simpa using h1
   ·refine ⟨?_, ?_, ?_, ?_, ?_⟩
    ·show 0 ≤ max x.f0 y.f0; omega
    ·exact d0
    ·show min x.f1 y.f1 ≤ top; omega
    ·show max la lb < max x.f0 y.f0 - 1; omega
    ·refine ValidFrom.mono ?_ h3; show min x.f1 y.f1 ≤ _; split <;> omega
   ·rw [List.map_cons, mem_cons, h4 z]; have e : (L133 ⟨max x.f0 y.f0, min x.f1 y.f1⟩).1 = max x.f0 y.f0 ∧ (L133 ⟨max x.f0 y.f0, min x.f1 y.f1⟩).2 = min x.f1 y.f1 := ⟨rfl, rfl⟩; rw [e.1, e.2]; have ga : ∀ z, Mem (a.map L133) z → x.f1 + 1 < z := fun z h => ValidFrom.gt a4 h
    have gb : ∀ z, Mem (b.map L133) z → y.f1 + 1 < z := fun z h => ValidFrom.gt b4 h
    simp only [List.map_cons, mem_cons, ex.1, ex.2, ey.1, ey.2]; by_cases d : x.f1 < y.f1
    ·simp only [if_pos d]; constructor
     ·rintro (h | ⟨h, h'⟩)
      ·exact ⟨.inl (by omega), .inl (by omega)⟩
      ·exact ⟨.inr h, h'⟩
     ·rintro ⟨h | h, h'⟩
      ·rcases h' with h' | h'
       ·exact .inl (by omega)
       ·have := gb z h'; omega
      ·exact .inr ⟨h, h'⟩
    ·simp only [if_neg d]; constructor
     ·rintro (h | ⟨h, h'⟩)
      ·exact ⟨.inl (by omega), .inl (by omega)⟩
      ·exact ⟨h, .inr h'⟩
     ·rintro ⟨h, h' | h'⟩
      ·rcases h with h | h
       ·exact .inl (by omega)
       ·have := ga z h; omega
      ·exact .inr ⟨h, h'⟩
  ·obtain ⟨m, h1, h2, h3, h4⟩ := main out 0 (by simp at hl; omega); refine ⟨m, evSucc (evSucc ?_), by simp; omega, ?_, fun z => ?_⟩
   ·simp only [sets_Meet.l0, if_pos c1, c2, sets_Meet.j1, if_true, if_pos c3, if_pos c4, r1, r2, mx_eq, mn_eq, if_neg d0]; exact h1
   ·refine ValidFrom.mono ?_ h3; split <;> omega
   ·rw [h4 z]; have ga : ∀ z, Mem (a.map L133) z → x.f1 + 1 < z := fun z h => ValidFrom.gt a4 h
    have gb : ∀ z, Mem (b.map L133) z → y.f1 + 1 < z := fun z h => ValidFrom.gt b4 h
    simp only [List.map_cons, mem_cons, ex.1, ex.2, ey.1, ey.2]; by_cases d : x.f1 < y.f1
    ·simp only [if_pos d]; constructor
     ·rintro ⟨h, h'⟩; exact ⟨.inr h, h'⟩
     ·rintro ⟨h | h, h'⟩
      ·rcases h' with h' | h'
       ·omega
       ·have := gb z h'; omega
      ·exact ⟨h, h'⟩
    ·simp only [if_neg d]; constructor
     ·rintro ⟨h, h'⟩; exact ⟨h, .inr h'⟩
     ·rintro ⟨h, h' | h'⟩
      ·rcases h with h | h
       ·omega
       ·have := ga z h; omega
      ·exact ⟨h, h'⟩
termination_by n a b => a.length + b.length
theorem meet_is (top : Int) (ht : top ≤ 1073741823) (a b : List S133) (hl : a.length + b.length ≤ 8796093022206) (ha : ValidFrom top (-2) (a.map L133)) (hb : ValidFrom top (-2) (b.map L133)) :
 ∃ m, Ev (fun k => sets_Meet.f k a b) m ∧ m.length ≤ a.length + b.length ∧ ValidFrom top (-2) (m.map L133) ∧ ∀ x, Mem (m.map L133) x ↔ Mem (a.map L133) x ∧ Mem (b.map L133) x := by
 obtain ⟨m, h1, h2, h3, h4⟩ := meet_loop (a.length + b.length) hl top ht _ a b [] (-2) (-2) rfl (by simp) ha hb; exact ⟨m, by simpa [sets_Meet.f] using h1, h2, by simpa using h3, h4⟩
theorem spans_Meet_is (a b : List S34) (ha : a.length * 16 ≤ 140737488351232) (hb : b.length * 16 ≤ 140737488351232) : ∃ r, Ev (fun k => spans_Meet.f k a b) r ∧ spans_IsSet r (fun x => Mem (setL 255 (a.map L34)) x ∧ Mem (setL 255 (b.map L34)) x) := by
 obtain ⟨s, h1, h2⟩ := spans_set_is a ha; obtain ⟨hv, hn⟩ := spans_set_facts h2; obtain ⟨t, g1, g2⟩ := spans_set_is b hb; obtain ⟨gv, gn⟩ := spans_set_facts g2; obtain ⟨m, k1, k2, k3, k4⟩ := meet_is 255 (by omega) s t (by omega) hv gv; obtain ⟨r, q1, q2⟩ := spans_out (p := fun x => Mem (setL 255 (a.map L34)) x ∧ Mem (setL 255 (b.map L34)) x) k3 (fun x => by rw [k4 x, h2, g2]); exact ⟨r, Ev.bind h1 (Ev.bind g1 (Ev.bind k1 (Ev.bind q1 (evNow _)))), q2⟩
end Go.Proofs.Ytoljcfocgaonpaa.PB3
end
section
namespace Go.Proofs.Ytoljcfocgaonpaa.PB3
open Go.RowKit Go.Proofs.YtoljcfocgaonpaaW.PrintWords Go.Proofs.YtoljcfocgaonpaaW.PrintLast Go.Proofs.YtoljcfocgaonpaaW.PrintMore Go.Proofs.Ytoljcfocgaonpaa.I Go.Proofs.LT
set_option linter.unusedVariables false
set_option linter.unusedSimpArgs false
theorem spans_Valid_is (l : List S34) (hl : l.length * 16 ≤ 140737488351232) : Ev (fun k => spans_Valid.f k l) (validB 255 (-2) (l.map L34)) := by
 have h1 := api_Span_106_is l hl; have h2 := valid_is 255 (by omega) (l.map api_Span_106_c) (by simp; omega); rw [api_Span_106_len] at h2; exact Ev.bind h1 (Ev.bind h2 (evNow _))
end Go.Proofs.Ytoljcfocgaonpaa.PB3
end
