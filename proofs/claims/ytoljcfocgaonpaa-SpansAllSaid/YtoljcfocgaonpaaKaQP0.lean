/- Words and laws of this claim, of 2 texts. -/
import Derived.Test.YtoljcfocgaonpaaKaIx5
import Derived.Test.YtoljcfocgaonpaaKaIx6
import Derived.RangeFuncNested
import Derived.RangeFuncBound
import Derived.RangeFuncCalls
import Derived.RangeFuncLeaves
import Derived.Shelf.Abstract
import Derived.Shelf.RegionOpen
import Derived.WalkKit
import Derived.OwnWalkIn
import Derived.TacticsInMore
import Derived.LoopNIn
import Derived.LoopIn
import Derived.Test.YtoljcfocgaonpaaKaIx7
section
namespace Go.Proofs.Ytoljcfocgaonpaa.I
open Go.RowKit Go.Shelf Go.Proofs.YtoljcfocgaonpaaW.PrintWords Go.Proofs.YtoljcfocgaonpaaW.PrintLast Go.Proofs.YtoljcfocgaonpaaW.PrintMore
set_option linter.unusedVariables false
set_option linter.unusedSimpArgs false
def KpS (S : Nat → Prop) (W W' : World) : Prop := W.heap.size ≤ W'.heap.size ∧ ∀ (k : Nat) (o : Obj), W.heap[k]? = some o → o.isCells = true → ¬ S k → W'.heap[k]? = some o
theorem KpS.trans {S : Nat → Prop} {X Y Z : World} (h : KpS S X Y) (k : KpS S Y Z) : KpS S X Z := ⟨Nat.le_trans h.1 k.1, fun i o hi ho hs => k.2 i o (h.2 i o hi ho hs) ho hs⟩
theorem KpS.of_below {S : Nat → Prop} {W W' : World} (h : Below W.heap.size W W') : KpS S W W' := ⟨h.size, fun k o hk _ _ => (h.block k (Array.getElem?_eq_some_iff.1 hk).1).trans hk⟩
theorem KpS.alloc {S : Nat → Prop} {W W' : World} (h : KpS S W W') (o : Obj) : KpS S W (W'.alloc o) := h.trans (KpS.of_below ((Below.refl _ W').alloc (Nat.le_refl _) _))
theorem KpS.put {S : Nat → Prop} {w : World} (W : World) (l : Nat) (o o' : Obj) (_ : w.heap.size ≤ l) (h : W.heap[l]? = some o) (ho : o.isCells = false) (_ : o.isWalk = false) : KpS S W (W.putObj l o') :=
  ⟨(grownBy_putObj' W l o').size, fun k o2 hk h2 _ => ((grownBy_putObj' W l o').block k (Array.getElem?_eq_some_iff.1 hk).1 (fun e => by cases e; rw [h] at hk; cases hk; rw [ho] at h2; cases h2)).trans hk⟩
theorem KpS.set {S : Nat → Prop} {W W' : World} (h : KpS S W W') {g : Nat} (hg : S g) (j : Nat) (v : Value) : KpS S W (W'.setCell ⟨g, j, none⟩ v) :=
  h.trans ⟨(KeepsOthers.setCell W' _ v).size, fun k o hk _ hs => (Below.heap_setCell W' ⟨g, j, none⟩ v k (fun e => hs (by rw [show k = g from e]; exact hg))).trans hk⟩
theorem cell_same {W W' : World} {p : Addr} (h : W'.heap[p.block]? = W.heap[p.block]?) : W'.cell? p = W.cell? p := by unfold World.cell?; rw [h]
def rngI (a b : Int) : List Int := (List.range (b + 1 - a).toNat).map fun (i : Nat) => a + (i : Int)
theorem rngI_nil {a b : Int} (h : b < a) : rngI a b = [] := by unfold rngI; rw [show (b + 1 - a).toNat = 0 by omega]; rfl
theorem rngI_snoc {a x : Int} (h : a ≤ x) : rngI a x = rngI a (x - 1) ++ [x] := by
  unfold rngI
  rw [show (x + 1 - a).toNat = (x - 1 + 1 - a).toNat + 1 by omega, List.range_succ, List.map_append]
  simp only [List.map_cons, List.map_nil]
  rw [show a + (((x - 1 + 1 - a).toNat : Nat) : Int) = x by omega]
theorem rngI_pre {a x b : Int} (h : x ≤ b) : rngI a x <+: rngI a b := by
  by_cases c : x < a
  · rw [rngI_nil c]; exact List.nil_prefix
  · unfold rngI
    rw [show (b + 1 - a).toNat = (x + 1 - a).toNat + (b - x).toNat by omega, List.range_add, List.map_append]
    exact List.prefix_append _ _
def memI (l : List S133) (fr : Int) : List Int := l.flatMap fun r => rngI (max r.f0 fr) r.f1
theorem memI_cons (r : S133) (t : List S133) (fr : Int) : memI (r :: t) fr = rngI (max r.f0 fr) r.f1 ++ memI t fr := by simp [memI]
theorem memI_append (a b : List S133) (fr : Int) : memI (a ++ b) fr = memI a fr ++ memI b fr := by simp [memI]
theorem memI_take {l : List S133} {k : Nat} (h : k < l.length) (fr : Int) : memI (l.take (k + 1)) fr = memI (l.take k) fr ++ rngI (max l[k].f0 fr) l[k].f1 := by
  rw [List.take_succ_eq_append_getElem h, memI_append, memI_cons]; simp [memI]
theorem memI_pre {l : List S133} {k : Nat} (h : k < l.length) (fr : Int) {x : Int} (hx : x ≤ l[k].f1) : memI (l.take k) fr ++ rngI (max l[k].f0 fr) x <+: memI l fr := by
  have e : memI l fr = memI (l.take (k + 1)) fr ++ memI (l.drop (k + 1)) fr := by rw [← memI_append, List.take_append_drop]
  rw [e, memI_take h]
  exact ((List.prefix_append_right_inj _).2 (rngI_pre hx)).trans (List.prefix_append _ _)
def RowS (S : Nat → Prop) (w : World) (A : Option Addr) (l : List S133) : Prop := ∀ (k : Nat) (h : k < l.length), ∃ g o, A = some ⟨g, 0, none⟩ ∧ w.heap[g]? = some o ∧ o.isCells = true ∧ ¬ S g ∧ w.cell? ⟨g, k * 2, none⟩ = some (.int .i64 l[k].f0) ∧ w.cell? ⟨g, k * 2 + 1, none⟩ = some (.int .i64 l[k].f1)
theorem noGoto_n {Q : Exit → Act → World → Prop} {a : Act} {w : World} (h : Q .normal a w) : Exit.noGoto Q .normal a w := h
attribute [local go_sem] Oper.semAt_some
attribute [local go_sem] max2_int min2_int max_two min_two max_three min_three max_four min_four
set_option maxRecDepth 100000 in
set_option maxHeartbeats 4000000 in
theorem all1_in (S : Nat → Prop) (Bl Bf l₀ : Nat) (n : Nat) (hn : 1 ≤ n) (A : Option Addr) (c : Nat) (l : List S133) (fr : Int) (w W : World) (hW : Below w.heap.size w W) (hS : ∀ k, S k → k < w.heap.size) (hBl : w.heap[Bl]? = some (.cells #[.slice A l.length c] 97 (0, 0))) (hSl : ¬ S Bl) (hBf : w.heap[Bf]? = some (.cells #[.int .i64 fr] 3 (0, 0))) (hSf : ¬ S Bf)
    (hC : RowS S w A l) (hlen : l.length ≤ 4611686018427387904) (hhi : ∀ r ∈ l, r.f1 ≤ 4611686018427387904 ∧ -4611686018427387904 ≤ r.f0)
    (J Jx : List Int → World → Prop) (hJal : ∀ pre W o, J pre W → J pre (W.alloc o))
    (hY : ∀ pre x W, J pre W → pre.length < (memI l fr).length → YieldAt Fence.wide (n - 1) Try.prog l₀ #[.int .i64 x] W fun e W' =>
      (e = .returned (.bool true) ∧ J (pre ++ [x]) W' ∧ KpS S W W') ∨ (e = .returned (.bool false) ∧ Jx (pre ++ [x]) W'))
    (h0 : J [] W) :
    CallsIn Fence.wide n Try.prog 109 #[.func (.yield l₀) #[] #[], .pointer (some ⟨Bl, 0, none⟩), .pointer (some ⟨Bf, 0, none⟩)] W fun e W' => (∃ v, e = .returned v) ∧
      ((∃ ys, ys = memI l fr ∧ J ys W') ∨ (∃ pre, pre <+: memI l fr ∧ Jx pre W')) := by
  have HBl := Aside0.mk hBl
  have HBf := Aside0.mk hBf
  have HSl := Aside0.mk hSl
  have HSf := Aside0.mk hSf
  have HS := Aside0.mk hS
  have HC := Aside0.mk hC
  have HL := Aside0.mk hlen
  have HH := Aside0.mk hhi
  have HY := Aside0.mk hY
  have HAL := Aside0.mk hJal
  have hcl : W.cell? ⟨Bl, 0, none⟩ = some (.slice A l.length c) := (blk_cell (blk_below hBl hW) 0).trans rfl
  have HW := Aside0.mk (KpS.of_below (S := S) hW)
  have H0 := Aside0.mk h0
  clear hBl hBf hC hlen hhi hY hJal hW h0 hSl hSf hS
  refine callsIn_of_wp Try.func109 rfl trivial ?_ rfl
  simp only [Try.ntmps109, List.size_toArray, List.length_cons, List.length_nil, Nat.reduceAdd, Nat.reduceSub, Array.replicate_succ, Array.replicate_zero, List.push_toArray, List.append_toArray, List.nil_append, List.cons_append]
  refine wpIn_wide.2 (wp_scope_straight ((wpIn_wide (n := n)).1 ?_))
  gi_wp2
  refine wpIn_label ?_
  gi_wp2
  clear hcl
  gi_loopw [9] (fun v9 wr => ∃ k : Nat, v9 = .int .i64 (k : Int) ∧ Aside0 (k ≤ l.length) ∧ Aside0 (J (memI (l.take k) fr) wr) ∧ Aside0 (KpS S w wr)) (fun v9 _ => l.length - (intOf v9).toNat)
  case atStart => exact ⟨0, rfl, ⟨Nat.zero_le _⟩, ⟨by simpa [memI] using H0.out⟩, HW⟩
  case round =>
    clear HW H0
    obtain ⟨k, rfl, HK, HJ, HB⟩ := hrel
    by_cases c1 : k < l.length
    · have cb : decide ((k : Int) < (l.length : Int)) = true := decide_eq_true (by omega)
      have cb2 : decide (k < l.length) = true := decide_eq_true c1
      have p : (0 ≤ (k : Int)) = True := eq_true (by omega)
      have q : ((k : Int) < (l.length : Int)) = True := eq_true (by omega)
      obtain ⟨g, o, eA, hg1, hg2, hg3, hx0, hx1⟩ := HC.out k c1
      subst eA
      replace hx0 := (cell_same (p := ⟨g, k * 2, none⟩) ((HB.out.2 g o hg1 hg2 hg3).trans hg1.symm)).trans hx0
      replace hx1 := (cell_same (p := ⟨g, k * 2 + 1, none⟩) ((HB.out.2 g o hg1 hg2 hg3).trans hg1.symm)).trans hx1
      clear hg1 hg2 hg3
      have C1 := Aside0.mk c1
      have hu133 := Try.underlying133
      generalize hr : l[k] = r at hx0 hx1
      have HR := Aside0.mk (fun (h_ : k < l.length) => (show l[k]'h_ = r from hr))
      have hmem : r ∈ l := by rw [← hr]; exact List.getElem_mem _
      have hb := HH.out r hmem
      have HBD := Aside0.mk hb
      clear hr c1 hmem
      have hf1 := HB.out.2 Bf _ HBf.out rfl HSf.out
      have HBF2 := Aside0.mk hf1
      have hcf2 : (wr.alloc (.cells #[.int .i64 r.f0, .int .i64 r.f1] 133)).cell? ⟨Bf, 0, none⟩ = some (.int .i64 fr) := (blk_cell (blk_alloc hf1 _) 0).trans rfl
      have HNW := Aside0.mk (blk_new wr (.cells #[.int .i64 r.f0, .int .i64 r.f1] 133))
      have HB2 := Aside0.mk (HB.out.alloc (.cells #[.int .i64 r.f0, .int .i64 r.f1] 133))
      have HJ2 := Aside0.mk (HAL.out _ _ (.cells #[.int .i64 r.f0, .int .i64 r.f1] 133) HJ.out)
      have HGN : Aside0 (¬ S wr.heap.size) := ⟨fun h => by have := HS.out _ h; have := HB.out.1; omega⟩
      clear hb hf1
      by_cases c2 : r.f1 < fr
      · have db : decide (r.f1 < fr) = true := decide_eq_true c2
        have C2 := Aside0.mk c2
        clear c2
        gi_wp2
        have hw : wrap64 ((k : Int) + 1) = ((k + 1 : Nat) : Int) := by rw [w64o (by omega) (by have := C1.out; have := HL.out; omega)]; simp
        go_roundw
        case measure => rw [hw]; have := C1.out; simp [intOf]; omega
        case rel => exact ⟨k + 1, by rw [hw], ⟨by have := C1.out; omega⟩, ⟨by
          rw [memI_take C1.out, HR.out C1.out, rngI_nil (by have := C2.out; omega), List.append_nil]; exact HJ2.out⟩, HB2⟩
      · have db : decide (r.f1 < fr) = false := decide_eq_false c2
        have C2 := Aside0.mk c2
        clear c2
        have hmx : ∃ m, max r.f0 fr = m := ⟨_, rfl⟩
        obtain ⟨m, hmx⟩ := hmx
        have HM := Aside0.mk hmx
        clear hmx
        obtain ⟨gb, HGB⟩ : ∃ gb, Aside0 (gb = wr.heap.size) := ⟨_, ⟨rfl⟩⟩
        gi_wp2
        all_goals
          have HX := Aside0.mk h
          clear h hcf2 hx0 hx1 cb cb2 p q db
          rw [← HGB.out] at HNW HGN ⊢
          gi_loopw [6] (fun v6 w2 => ∃ x : Int, v6 = .int .i64 x ∧ Aside0 (m ≤ x ∧ (x ≤ r.f1 + 1 ∨ x = m)) ∧ Aside0 (J (memI (l.take k) fr ++ rngI m (x - 1)) w2) ∧ Aside0 (KpS S w w2) ∧ Aside0 (w2.heap[gb]? = some (.cells #[.int .i64 r.f0, .int .i64 r.f1] 133 (0, 0)))) (fun v6 _ => (r.f1 + 1 - intOf v6).toNat)
          case atStart => exact ⟨m, by rw [← HM.out]; congr 1; have := HX.out; omega, ⟨by omega, .inr rfl⟩, ⟨by rw [rngI_nil (show m - 1 < m by omega), List.append_nil]; exact HJ2.out⟩, HB2, HNW⟩
          case round =>
            obtain ⟨x, rfl, HXB, HJ3, HB3, HN3⟩ := hrel
            have hc0 : wr.cell? ⟨gb, 0, none⟩ = some (.int .i64 r.f0) := (blk_cell HN3.out 0).trans rfl
            have hc1 : wr.cell? ⟨gb, 1, none⟩ = some (.int .i64 r.f1) := (blk_cell HN3.out 1).trans rfl
            by_cases c3 : x ≤ r.f1
            · have eb : decide (x ≤ r.f1) = true := decide_eq_true c3
              have hpre := memI_pre C1.out fr (x := x) (by rw [HR.out C1.out]; exact c3)
              rw [HR.out C1.out, HM.out, rngI_snoc HXB.out.1, ← List.append_assoc] at hpre
              have hlt : (memI (l.take k) fr ++ rngI m (x - 1)).length < (memI l fr).length := by have := hpre.length_le; rw [List.length_append] at this; simp at this; rw [List.length_append]; omega
              have HPRE := Aside0.mk hpre
              obtain ⟨fn, tmps, assign, body, hy, hR⟩ := HY.out _ x wr HJ3.out hlt
              have C3 := Aside0.mk c3
              clear hpre hlt c3
              gi_wp2
              refine hR.mono ?_
              rintro e W3 (⟨rfl, hJ3, hk3⟩ | ⟨rfl, hJx3⟩)
              · have HJ4 := Aside0.mk hJ3
                have HK4 := Aside0.mk hk3
                clear hJ3 hk3 hR hy
                gi_wp2
                have hw : wrap64 (x + 1) = x + 1 := w64o (by have := HBD.out; have := HXB.out; have := HM.out; omega) (by have := HBD.out; have := C3.out; omega)
                go_roundw
                case measure => rw [hw]; have := C3.out; simp [intOf]; omega
                case rel => exact ⟨x + 1, by rw [hw], ⟨by have := HXB.out; omega, .inl (by have := C3.out; omega)⟩, ⟨by
                  rw [show x + 1 - 1 = x by omega, rngI_snoc HXB.out.1, ← List.append_assoc]; exact HJ4.out⟩, ⟨HB3.out.trans HK4.out⟩, ⟨HK4.out.2 _ _ HN3.out rfl HGN.out⟩⟩
              · have HJX := Aside0.mk hJx3
                clear hJx3 hR hy
                gi_wp2
                refine noGoto_n ?_
                go_end0
                exact ⟨⟨_, rfl⟩, .inr ⟨_, HPRE.out, HJX.out⟩⟩
            · have eb : decide (x ≤ r.f1) = false := decide_eq_false c3
              have C3 := Aside0.mk c3
              clear c3
              gi_wp2
              have hw : wrap64 ((k : Int) + 1) = ((k + 1 : Nat) : Int) := by rw [w64o (by omega) (by have := C1.out; have := HL.out; omega)]; simp
              go_roundw
              case measure => rw [hw]; have := C1.out; simp [intOf]; omega
              case rel => exact ⟨k + 1, by rw [hw], ⟨by have := C1.out; omega⟩, ⟨by
                rw [memI_take C1.out, HR.out C1.out, HM.out]
                have e : rngI m r.f1 = rngI m (x - 1) := by
                  rcases HXB.out.2 with h | h
                  · rw [show x - 1 = r.f1 by have := C3.out; omega]
                  · rw [rngI_nil (show r.f1 < m by have := C3.out; omega), rngI_nil (show x - 1 < m by omega)]
                rw [e]; exact HJ3.out⟩, HB3⟩
    · have cb : decide ((k : Int) < (l.length : Int)) = false := decide_eq_false (by omega)
      have cb2 : decide (k < l.length) = false := decide_eq_false c1
      have hk := Aside0.mk (show k = l.length by have := HK.out; omega)
      clear c1
      gi_wp2
      refine noGoto_n ?_
      go_end0
      exact ⟨⟨_, rfl⟩, .inl ⟨_, rfl, by have := HJ.out; rw [hk.out, List.take_length] at this; exact this⟩⟩
def RowW (w : World) (A : Option Addr) (l : List S133) : Prop := ∀ (k : Nat) (h : k < l.length), ∃ g o, A = some ⟨g, 0, none⟩ ∧ w.heap[g]? = some o ∧ o.isCells = true ∧ w.cell? ⟨g, k * 2, none⟩ = some (.int .i64 l[k].f0) ∧ w.cell? ⟨g, k * 2 + 1, none⟩ = some (.int .i64 l[k].f1)
theorem RowW.below {w w' : World} {A : Option Addr} {l : List S133} (h : RowW w A l) (hb : Below w.heap.size w w') : RowW w' A l := fun k hk => by
  obtain ⟨g, o, e, h1, h2, h3, h4⟩ := h k hk
  have hlt : g < w.heap.size := (Array.getElem?_eq_some_iff.1 h1).1
  have e1 := hb.block g hlt
  exact ⟨g, o, e, e1.trans h1, h2, (cell_same (p := ⟨g, k * 2, none⟩) e1).trans h3, (cell_same (p := ⟨g, k * 2 + 1, none⟩) e1).trans h4⟩
theorem rowW_of {w : World} {base : Nat} {ok : Nat → Prop} {A : Option Addr} {c : Nat} {l : List S133} (h : Kd.R k133 133 w base ok (.slice A l.length c) l) : RowW w A l := fun k hk => by
  obtain ⟨g, cap, e, _, _, hc⟩ := Kd.R_form h (by omega)
  obtain ⟨cells, hg⟩ := hc
  injection e with e1 e2 e3
  obtain ⟨ad, e4, hx0, hx1⟩ := at_T133 (Kd.R_reads' h).2.2 (k : Int) (by omega) (by omega)
  rw [e1] at e4
  injection e4 with e4
  subst e4
  have hrd : rd_T133 l (k : Int) = l[k] := by simp [rd_T133, List.getD, hk]
  rw [hrd] at hx0 hx1
  simp only [add_plain, Int.toNat_natCast, Nat.zero_add] at hx0 hx1
  exact ⟨g, _, e1, hg, rfl, hx0, hx1⟩
theorem sets_All.calls (A : Option Addr) (m c : Nat) (fr : Int) (w : World) : Calls Try.prog 59 #[.slice A m c, .int .i64 fr] w fun e w' => e = .returned (.func (.func 109) #[] #[.pointer (some ⟨w.heap.size, 0, none⟩), .pointer (some ⟨w.heap.size + 1, 0, none⟩)]) ∧ w' = (w.alloc (.cells #[.slice A m c] 97)).alloc (.cells #[.int .i64 fr] 3) := by
  go_enter Try.func59, Try.ntmps59
  go_wp2
  go_ret
  exact ⟨rfl, rfl⟩
def AllV (W : World) (v : Value) (l : List S133) (fr : Int) : Prop := ∃ Bl Bf A c, v = .func (.func 109) #[] #[.pointer (some ⟨Bl, 0, none⟩), .pointer (some ⟨Bf, 0, none⟩)] ∧ W.heap[Bl]? = some (.cells #[.slice A l.length c] 97 (0, 0)) ∧ W.heap[Bf]? = some (.cells #[.int .i64 fr] 3 (0, 0)) ∧ RowW W A l
theorem AllV.below {W W' : World} {v : Value} {l : List S133} {fr : Int} (h : AllV W v l fr) (hb : Below W.heap.size W W') : AllV W' v l fr := by
  obtain ⟨Bl, Bf, A, c, e, h1, h2, h3⟩ := h
  exact ⟨Bl, Bf, A, c, e, blk_below h1 hb, blk_below h2 hb, h3.below hb⟩
theorem AllV.stops {W w0 : World} {v : Value} {l : List S133} {fr : Int} (n : Nat) (hn : 1 ≤ n) (S : Nat → Prop) (h : AllV W v l fr) (hS : ∀ k, S k → W.heap.size ≤ k ∧ k < w0.heap.size) (hb : Below W.heap.size W w0) (hlen : l.length ≤ 4611686018427387904) (hhi : ∀ r ∈ l, r.f1 ≤ 4611686018427387904 ∧ -4611686018427387904 ≤ r.f0) :
    ∃ lb, v = .func (.func 109) #[] lb ∧ SeqStopsK Fence.wide n Try.prog 109 lb (fun x : Int => #[Value.int .i64 x]) (KpS S) (fun ys => ys = memI l fr) (fun pre => pre <+: memI l fr) (memI l fr).length w0 := by
  obtain ⟨Bl, Bf, A, c, e, h1, h2, h3⟩ := h
  refine ⟨_, e, fun l₀ J Jx W1 hW hJ _ hY h0 => ?_⟩
  have lt1 : Bl < W.heap.size := (Array.getElem?_eq_some_iff.1 h1).1
  have lt2 : Bf < W.heap.size := (Array.getElem?_eq_some_iff.1 h2).1
  have hr : RowS S w0 A l := fun k hk => by
    obtain ⟨g, o, e, q1, q2, q3, q4⟩ := h3 k hk
    have hlt : g < W.heap.size := (Array.getElem?_eq_some_iff.1 q1).1
    have e1 := hb.block g hlt
    exact ⟨g, o, e, e1.trans q1, q2, fun hs => by have := (hS g hs).1; omega, (cell_same (p := ⟨g, k * 2, none⟩) e1).trans q3, (cell_same (p := ⟨g, k * 2 + 1, none⟩) e1).trans q4⟩
  exact all1_in S Bl Bf l₀ n hn A c l fr w0 W1 hW (fun k hk => (hS k hk).2) (blk_below h1 hb) (fun hs => by have := (hS _ hs).1; omega) (blk_below h2 hb) (fun hs => by have := (hS _ hs).1; omega) hr hlen hhi J Jx
    (fun pre W o hj => hJ pre W _ none hj (World.grownBy_alloc W o none) (fun r e => by cases e)) hY h0
set_option maxHeartbeats 4000000 in
theorem spans_All.calls (k : Nat) (A0 : Option Addr) (c0 : Nat) (l0 : List S34) (fr : Int) (l : List S133) (w : World) (hr0 : Kd.C k34 w A0 l0.length l0) (hc0 : l0.length ≤ c0) (h : spans_set.f k l0 = some l) :
    Calls Try.prog 14 #[.slice A0 l0.length c0, .int .i64 fr] w fun e w' => ∃ v, e = .returned v ∧ AllV w' v l fr ∧ Below w.heap.size w w' := by
  have hS := spans_set.calls k A0 c0 l0 l w hr0 hc0 h
  clear hr0 hc0 h
  have HS := Aside0.mk hS
  clear hS
  go_enter Try.func14, Try.ntmps14
  go_wp2_with (first | (go_at_call 60; refine HS.out.mono ?_; rintro e w1 ⟨v, rfl, ho, hb⟩; obtain ⟨Ao, co, eo⟩ := Kd.R_slice ho; subst eo; have HO := Aside0.mk ho; have HB := Aside0.mk hb; clear ho hb HS) | (go_at_call 59; refine (sets_All.calls Ao l.length co fr _).mono ?_; rintro e w2 ⟨rfl, rfl⟩))
  go_ret
  have hb2 : Below w1.heap.size w1 ((w1.alloc (.cells #[.slice Ao l.length co] 97)).alloc (.cells #[.int .i64 fr] 3)) := ((Below.refl _ w1).alloc (Nat.le_refl _) _).alloc (by simp) _
  exact ⟨_, rfl, ⟨w1.heap.size, w1.heap.size + 1, Ao, co, rfl, blk_alloc (blk_new w1 _) _, blk_new2 w1 _ _, (rowW_of HO.out).below hb2⟩, HB.out.trans (hb2.mono HB.out.size)⟩
end Go.Proofs.Ytoljcfocgaonpaa.I
end
section
namespace Go.Proofs.Ytoljcfocgaonpaa.I
open Go.RowKit Go.Shelf Go.Proofs.YtoljcfocgaonpaaW.PrintWords Go.Proofs.YtoljcfocgaonpaaW.PrintLast Go.Proofs.YtoljcfocgaonpaaW.PrintMore
set_option linter.unusedVariables false
set_option linter.unusedSimpArgs false
theorem max2_m (k k' : IntKind) (x y : Int) : Builtin.max2 (.int k x) (.int k' y) = pure (.int k (max x y)) := by rw [max2_int, show (if x < y then y else x) = max x y by split <;> omega]
theorem min2_m (k k' : IntKind) (x y : Int) : Builtin.min2 (.int k x) (.int k' y) = pure (.int k (min x y)) := by rw [min2_int, show (if y < x then y else x) = min x y by split <;> omega]
theorem keep2 {w w1 : World} {b : Nat} {v : Value} (h : Below w.heap.size w w1) (hl : b < w.heap.size) (hc : w.cell? ⟨b, 0, none⟩ = some v) : w1.cell? ⟨b, 0, none⟩ = some v := (h.cell (p := ⟨b, 0, none⟩) hl).trans hc
theorem keep3 {w0 w w1 : World} {b : Nat} {v : Value} (h : Below w.heap.size w w1) (hl : b < w0.heap.size) (hz : w0.heap.size ≤ w.heap.size) (hc : w.cell? ⟨b, 0, none⟩ = some v) : w1.cell? ⟨b, 0, none⟩ = some v := (h.cell (p := ⟨b, 0, none⟩) (Nat.lt_of_lt_of_le hl hz)).trans hc
theorem leaves_marks {F : Fence} {n : Nat} {P : Program} {fn : Func} {tmps : Array Value} {R : Ending → World → Prop} {D0 : Nat} {X : World → Prop} (hX : ∀ W D, X W → D0 ≤ D → W.heap[D]? = some (.deferred (some [])) → X (W.putObj D (.deferred none))) (hE : ∀ W, X W → LeavesInM F n P fn tmps R [] .returning W) :
    ∀ (Ds : List Nat) (W : World), Ds.Nodup → (∀ D ∈ Ds, D0 ≤ D ∧ W.heap[D]? = some (.deferred (some []))) → X W → LeavesInM F n P fn tmps R (Ds.map fun D => { target := .collected D, args := #[] }) .returning W
  | [], W, _, _, hx => hE W hx
  | D :: Ds, W, hn, hd, hx => by
    obtain ⟨d0, d1⟩ := hd D (List.mem_cons_self)
    obtain ⟨n1, n2⟩ := List.nodup_cons.1 hn
    refine ⟨by simp, .inl ⟨D, _, rfl, run_takeDeferred d1, leaves_marks hX hE Ds _ n2 (fun D' h' => ?_) (hX W D hx d0 d1)⟩⟩
    obtain ⟨e0, e1⟩ := hd D' (List.mem_cons_of_mem _ h')
    exact ⟨e0, ((grownBy_putObj' W D _).block D' (Array.getElem?_eq_some_iff.1 e1).1 (fun e => by cases e; exact n1 h')).trans e1⟩
theorem blk_set {W : World} {b : Nat} {u : Value} {t : TypeId} (h : W.heap[b]? = some (.cells #[u] t (0, 0))) (v : Value) : (W.setCell ⟨b, 0, none⟩ v).heap[b]? = some (.cells #[v] t (0, 0)) := by
  simp [World.setCell, Array.getElem?_modify, h]
theorem blk_set_far {W : World} {b c : Nat} {o : Obj} (h : W.heap[c]? = some o) (hne : c ≠ b) (v : Value) : (W.setCell ⟨b, 0, none⟩ v).heap[c]? = some o := (Below.heap_setCell W ⟨b, 0, none⟩ v c hne).trans h
theorem KeepsFrom.of_b {B : Nat} {W W' : World} (h : Below W.heap.size W W') : KeepsFrom B W W' := ⟨h.size, fun k o _ hk _ => (h.block k (Array.getElem?_eq_some_iff.1 hk).1).trans hk⟩
def TM (A0 A2 : Option Addr) (m c0 c2 b : Nat) (fr early : Int) (v3 : Value) (j : Nat) (u : Nat → Value) : Array Value :=
  #[.slice A0 m c0, .int .i64 fr, .int .i64 early, .pointer (some ⟨b, 0, none⟩), .pointer (some ⟨b + 1, 0, none⟩), .pointer (some ⟨b + 1 + 1, 0, none⟩), .pointer (some ⟨b + 1 + 1 + 1, 0, none⟩), v3, .int .i64 (j : Int), u 9, u 10, u 11, u 12, u 13, u 14, u 15, u 16, u 17, u 18, .bool true, .bool false, .slice A0 m c0, .slice A2 m c2, .int .i64 fr, v3, u 25, u 26, u 27, u 28, u 29, u 30, u 31, u 32, u 33, u 34, u 35, u 36, u 37, u 38, u 39, u 40, u 41, u 42, u 43, u 44, u 45, u 46, u 47, u 48, u 49, u 50, u 51, u 52, u 53, u 54, u 55, u 56, u 57, u 58, u 59, u 60, u 61, u 62, u 63, u 64, u 65, u 66, u 67, u 68, u 69, u 70, u 71, u 72, u 73, u 74, u 75, u 76, u 77, u 78, u 79, u 80, u 81, u 82, u 83, u 84, u 85, u 86, u 87, u 88, u 89, u 90, u 91, u 92, u 93, u 94, u 95, u 96, u 97, u 98, u 99, u 100, u 101]
def lastI (pre : List Int) : Int := pre.getLast?.getD 0
def turnsLeft (a : Act) : Nat := match a.tmps[8]? with | some (Value.int _ i) => (2 - i).toNat | _ => 0
attribute [local go_sem] Oper.semAt_some
attribute [local go_sem] max2_m min2_m max_two min_two max_three min_three max_four min_four
namespace L3
def Env (W : World) (b bn bl : Nat) (v : Value) (fr early nI la : Int) : Prop :=
  W.heap[b]? = some (.cells #[v] 22 (0, 0)) ∧ W.heap[b + 1]? = some (.cells #[.int .i64 fr] 3 (0, 0)) ∧ W.heap[b + 1 + 1]? = some (.cells #[.int .i64 early] 3 (0, 0)) ∧ W.heap[b + 1 + 1 + 1]? = some (.cells #[.bool false] 4 (0, 0)) ∧ W.heap[bn]? = some (.cells #[.int .i64 nI] 3 (0, 0)) ∧ W.heap[bl]? = some (.cells #[.int .i64 la] 3 (0, 0))
theorem Env.below {W W' : World} {b bn bl : Nat} {v : Value} {fr early nI la : Int} (h : Env W b bn bl v fr early nI la) (hb : Below W.heap.size W W') : Env W' b bn bl v fr early nI la :=
  ⟨blk_below h.1 hb, blk_below h.2.1 hb, blk_below h.2.2.1 hb, blk_below h.2.2.2.1 hb, blk_below h.2.2.2.2.1 hb, blk_below h.2.2.2.2.2 hb⟩
theorem Env.cells {W : World} {b bn bl : Nat} {v : Value} {fr early nI la : Int} (h : Env W b bn bl v fr early nI la) : W.cell? ⟨b, 0, none⟩ = some v ∧ W.cell? ⟨b + 1, 0, none⟩ = some (.int .i64 fr) ∧ W.cell? ⟨b + 1 + 1, 0, none⟩ = some (.int .i64 early) ∧ W.cell? ⟨b + 1 + 1 + 1, 0, none⟩ = some (.bool false) ∧ W.cell? ⟨bn, 0, none⟩ = some (.int .i64 nI) ∧ W.cell? ⟨bl, 0, none⟩ = some (.int .i64 la) ∧ W.frozen? ⟨b + 1 + 1 + 1, 0, none⟩ = false ∧ W.frozen? ⟨bn, 0, none⟩ = false ∧ W.frozen? ⟨bl, 0, none⟩ = false :=
  ⟨(blk_cell h.1 0).trans rfl, (blk_cell h.2.1 0).trans rfl, (blk_cell h.2.2.1 0).trans rfl, (blk_cell h.2.2.2.1 0).trans rfl, (blk_cell h.2.2.2.2.1 0).trans rfl, (blk_cell h.2.2.2.2.2 0).trans rfl, blk_frozen h.2.2.2.1 0, blk_frozen h.2.2.2.2.1 0, blk_frozen h.2.2.2.2.2 0⟩
theorem Env.kept {A B : World} {row : Option Nat} {b bn bl : Nat} {v : Value} {fr early nI la : Int} (h : Env A b bn bl v fr early nI la) (hg : A.grownBy B row) (hr : ∀ r, row = some r → ∃ o : Obj, A.heap[r]? = some o ∧ o.isCells = false) : Env B b bn bl v fr early nI la :=
  ⟨(grownBy_keeps_cells hg hr h.1 rfl).trans h.1, (grownBy_keeps_cells hg hr h.2.1 rfl).trans h.2.1, (grownBy_keeps_cells hg hr h.2.2.1 rfl).trans h.2.2.1, (grownBy_keeps_cells hg hr h.2.2.2.1 rfl).trans h.2.2.2.1, (grownBy_keeps_cells hg hr h.2.2.2.2.1 rfl).trans h.2.2.2.2.1, (grownBy_keeps_cells hg hr h.2.2.2.2.2 rfl).trans h.2.2.2.2.2⟩
theorem Env.step {W : World} {b bn bl : Nat} {v : Value} {fr early nI la : Int} (h : Env W b bn bl v fr early nI la) (h1 : b + 1 + 1 + 1 < bn) (h2 : bn < bl) (n' x : Int) : Env ((W.setCell ⟨bn, 0, none⟩ (.int .i64 n')).setCell ⟨bl, 0, none⟩ (.int .i64 x)) b bn bl v fr early n' x :=
  ⟨blk_set_far (blk_set_far h.1 (by omega) _) (by omega) _, blk_set_far (blk_set_far h.2.1 (by omega) _) (by omega) _, blk_set_far (blk_set_far h.2.2.1 (by omega) _) (by omega) _, blk_set_far (blk_set_far h.2.2.2.1 (by omega) _) (by omega) _, blk_set_far (blk_set h.2.2.2.2.1 _) (by omega) _, blk_set (blk_set_far h.2.2.2.2.2 (by omega) _) _⟩
theorem lit1 (W : World) (a b : Int) : Kd.R k34 34 (W.alloc (.cells #[.int .i64 a, .int .i64 b] 34)) W.heap.size (fun _ => True) (.slice (some ⟨W.heap.size, 0, none⟩) 1 1) [(⟨a, b⟩ : S34)] := by
  have hrep : Reps (Kd.M k34 W W.heap.size (fun _ => True)) 2 [(⟨a, b⟩ : S34)] [.int .i64 a, .int .i64 b] := Reps.c2 (show Kd.M k34 _ _ _ (⟨a, b⟩ : S34) [.int .i64 a, .int .i64 b] from (k34_mkM _ _ _ (⟨a, b⟩ : S34))) (Reps.none _ _)
  refine ⟨fun _ _ => trivial, [.int .i64 a, .int .i64 b], ?_, ?_⟩
  · have h2 := World.ownsRow_lit (base := W.heap.size) (e := 34) (size := 2) W #[.int .i64 a, .int .i64 b] 1 (Nat.le_refl _) (by simp [maxLen]) (by simp)
    exact h2
  · refine hrep.imp_ (fun p c hp => Kd.M_mono k34 (fun k hk => ⟨trivial, fun he => ?_⟩) (Kd.M_below (d := k34) (Kd.M_bound k34 hp) (below_alloc (Below.refl _ _) _)))
    have h3 : k = W.heap.size := by simpa [Value.ownBlock] using he
    have := hk.2.2.1
    omega
set_option maxRecDepth 100000 in
set_option maxHeartbeats 8000000 in
theorem lawAll.walk (k : Nat) (A0 : Option Addr) (c0 : Nat) (s : List S34) (fr early : Int) (l : List S133) (m : List S34) (hasV : Int → Bool) (rnk sel : Int → Int × Bool) (w : World) (hr0 : Kd.C k34 w A0 s.length s) (hc0 : s.length ≤ c0)
    (hfix : leadtraillaw03_fixed.f k = some true) (hcp : leadtraillaw03_copied.f s = some s) (hset : spans_set.f k s = some l) (hlen : l.length ≤ 4611686018427387904) (hhi : ∀ r ∈ l, r.f1 ≤ 4611686018427387904 ∧ -4611686018427387904 ≤ r.f0)
    (hH : ∀ x, ∃ k, leadtrailref03_Has.f k s x = some (hasV x)) (hR : ∀ x, ∃ k, leadtrailref03_Rank.f k s x = some (rnk x)) (hRb : ∀ x, 0 ≤ (rnk x).1 ∧ (rnk x).1 ≤ 4611686018427387904) (hSel : ∀ x, 0 ≤ x → x ≤ 4611686018427387904 → ∃ k, leadtrailref03_Select.f k s x = some (sel x))
    (hmeet : leadtrailref03_Meet.f k s [(⟨max fr 0, 255⟩ : S34)] = some m) (hsz : leadtrailref03_Size.f k m = some ((memI l fr).length : Int)) (hnb : (memI l fr).length ≤ 4611686018427387904)
    (hG : ∀ pre x, pre ++ [x] <+: memI l fr → hasV x = true ∧ fr ≤ x ∧ (pre ≠ [] → lastI pre < x ∧ (rnk x).1 = (rnk (lastI pre)).1 + 1) ∧ (pre = [] → 0 < (rnk x).1 → (sel ((rnk x).1 - 1)).1 < fr)) :
    Calls Try.prog 3 #[.slice A0 s.length c0, .int .i64 fr, .int .i64 early] w fun e w' => e = .returned (.bool true) ∧ Below w.heap.size w w' := by
  have HR := Aside0.mk hr0
  have HC := Aside0.mk hc0
  have HFIX := Aside0.mk hfix
  have HCP := Aside0.mk hcp
  have HSET := Aside0.mk hset
  have HLEN := Aside0.mk hlen
  have HHI := Aside0.mk hhi
  have HH := Aside0.mk hH
  have HRK := Aside0.mk hR
  have HRB := Aside0.mk hRb
  have HSEL := Aside0.mk hSel
  have HMEET := Aside0.mk hmeet
  have HSZ := Aside0.mk hsz
  have HNB := Aside0.mk hnb
  have HG := Aside0.mk hG
  clear hr0 hc0 hfix hcp hset hlen hhi hH hR hRb hSel hmeet hsz hnb hG
  have B0 := Aside0.mk (blk_alloc (blk_alloc (blk_alloc (blk_new w (.cells #[.slice A0 s.length c0] 22)) (.cells #[.int .i64 fr] 3)) (.cells #[.int .i64 early] 3)) (.cells #[.bool false] 4))
  have B1 := Aside0.mk (blk_alloc (blk_alloc (blk_new2 w (.cells #[.slice A0 s.length c0] 22) (.cells #[.int .i64 fr] 3)) (.cells #[.int .i64 early] 3)) (.cells #[.bool false] 4))
  have B2 := Aside0.mk (blk_alloc (blk_new2 (w.alloc (.cells #[.slice A0 s.length c0] 22)) (.cells #[.int .i64 fr] 3) (.cells #[.int .i64 early] 3)) (.cells #[.bool false] 4))
  have B3 := Aside0.mk (blk_new2 ((w.alloc (.cells #[.slice A0 s.length c0] 22)).alloc (.cells #[.int .i64 fr] 3)) (.cells #[.int .i64 early] 3) (.cells #[.bool false] 4))
  have HB := Aside0.mk (below_alloc (below_alloc (below_alloc (below_alloc (Below.refl w.heap.size w) (.cells #[.slice A0 s.length c0] 22)) (.cells #[.int .i64 fr] 3)) (.cells #[.int .i64 early] 3)) (.cells #[.bool false] 4))
  simp only [World.size_alloc, Nat.add_assoc, Nat.reduceAdd] at B2 B3
  refine (callsIn_wide (n := 3)).1 ?_
  refine callsIn_of_wp_marks Try.func3 rfl trivial ?_
  simp only [Try.ntmps3, List.size_toArray, List.length_cons, List.length_nil, Nat.reduceAdd, Nat.reduceSub, Array.replicate_succ, Array.replicate_zero, List.push_toArray, List.append_toArray, List.nil_append, List.cons_append]
  refine wpIn_wide.2 ?_
  go_wp2_with (go_at_call 13; (first | refine (leadtraillaw03_fixed.calls k true _ HFIX.out rfl).mono ?_ | refine (leadtraillaw03_fixed.calls k true _ HFIX.out).mono ?_); rintro e w1 ⟨rfl, hb⟩; have n0_ := Aside0.mk (blk_below B0.out hb); have n1_ := Aside0.mk (blk_below B1.out hb); have n2_ := Aside0.mk (blk_below B2.out hb); have n3_ := Aside0.mk (blk_below B3.out hb); have n4_ := Aside0.mk (below_step HB.out hb); clear B0 B1 B2 B3 HB hb; have B0 := n0_; have B1 := n1_; have B2 := n2_; have B3 := n3_; have HB := n4_; clear n0_ n1_ n2_ n3_ n4_)
  have hq0 : w1.cell? ⟨w.heap.size, 0, none⟩ = some (.slice A0 s.length c0) := (blk_cell B0.out 0).trans rfl
  have hq1 : w1.cell? ⟨w.heap.size + 1, 0, none⟩ = some (.int .i64 fr) := (blk_cell B1.out 0).trans rfl
  have l0 := blk_lt B0.out
  have l1 := blk_lt B1.out
  have L01 := Aside0.mk (And.intro l0 l1)
  clear l0 l1
  go_region_held3 (fun w' => w'.cell? ⟨w.heap.size, 0, none⟩ = some (.slice A0 s.length c0) ∧ w'.cell? ⟨w.heap.size + 1, 0, none⟩ = some (.int .i64 fr))
    (first | go_keep | (go_split_ands; exact ⟨by first | exact keep3 hb3 L01.out.1 HZ.out (by assumption) | exact keep2 hb2 L01.out.1 (by assumption), by first | exact keep3 hb3 L01.out.2 HZ.out (by assumption) | exact keep2 hb2 L01.out.2 (by assumption)⟩))
    (first | (go_at_call 15; refine (leadtraillaw03_copied.calls A0 c0 s s _ ?q1 ?q2 HCP.out).mono ?_; (case q1 => exact Kd.C_drew (Kd.C_below HR.out HB.out)); (case q2 => exact HC.out); rintro e w2 ⟨v2, rfl, ho2, hb2⟩; obtain ⟨A2, c2, e2⟩ := Kd.R_slice ho2; subst e2; have HO2 := Aside0.mk ho2; have HZ := Aside0.mk hb2.size; clear ho2) | (go_at_call 14; refine (spans_All.calls k A2 c2 s fr l _ ?q1 ?q2 HSET.out).mono ?_; (case q1 => exact (Kd.R_reads' HO2.out).2.2); (case q2 => exact (Kd.R_reads' HO2.out).2.1); rintro e w3 ⟨v3, rfl, ha3, hb3⟩; have HA3 := Aside0.mk ha3; clear ha3))
  go_wp2
  have hbw : Below w.heap.size w w3 := below_step (below_step (below_drew1 HB.out) hb2) hb3
  have C0 := Aside0.mk (blk_below (blk_below (show w1.drew.heap[w.heap.size]? = _ from B0.out) hb2) hb3)
  have C1 := Aside0.mk (blk_below (blk_below (show w1.drew.heap[w.heap.size + 1]? = _ from B1.out) hb2) hb3)
  have C2 := Aside0.mk (blk_below (blk_below (show w1.drew.heap[w.heap.size + 1 + 1]? = _ from B2.out) hb2) hb3)
  have C3 := Aside0.mk (blk_below (blk_below (show w1.drew.heap[w.heap.size + 1 + 1 + 1]? = _ from B3.out) hb2) hb3)
  have HBW := Aside0.mk hbw
  clear hbw
  refine wp_loop (fun a W => ∃ (j : Nat) (Ds : List Nat), a = { tmps := TM A0 A2 s.length c0 c2 w.heap.size fr early v3 j (fun i => a.tmps.getD i undef), defers := Ds.map fun D => { target := .collected D, args := #[] } } ∧ j ≤ 2 ∧ Below w3.heap.size w3 W ∧ Ds.Nodup ∧ ∀ D ∈ Ds, w3.heap.size ≤ D ∧ W.heap[D]? = some (.deferred (some [])))
    (fun a _ => turnsLeft a)
    ⟨0, [], rfl, by omega, Below.refl _ _, .nil, by simp⟩ ?_
  rintro a w5 ⟨j, Ds, ha, hj, hb5, hnd, hD⟩
  generalize (fun i => a.tmps.getD i undef) = u at ha
  subst ha
  unfold TM
  have q0 : w5.cell? ⟨w.heap.size, 0, none⟩ = some (.slice A0 s.length c0) := (blk_cell (blk_below C0.out hb5) 0).trans rfl
  have q1 : w5.cell? ⟨w.heap.size + 1, 0, none⟩ = some (.int .i64 fr) := (blk_cell (blk_below C1.out hb5) 0).trans rfl
  have q2 : w5.cell? ⟨w.heap.size + 1 + 1, 0, none⟩ = some (.int .i64 early) := (blk_cell (blk_below C2.out hb5) 0).trans rfl
  have q3 : w5.cell? ⟨w.heap.size + 1 + 1 + 1, 0, none⟩ = some (.bool false) := (blk_cell (blk_below C3.out hb5) 0).trans rfl
  have f3 : w5.frozen? ⟨w.heap.size + 1 + 1 + 1, 0, none⟩ = false := blk_frozen (blk_below C3.out hb5) 0
  have HB5 := Aside0.mk (below_step HBW.out hb5)
  have HD := Aside0.mk hD
  have HND := Aside0.mk hnd
  clear hD hnd
  by_cases hj2 : j = 2
  · subst hj2
    have hl : decide (((2 : Nat) : Int) < 2) = false := rfl
    go_wp2
    have hlt3 : w.heap.size + 1 + 1 + 1 < w3.heap.size := blk_lt C3.out
    have hs5 : w3.heap.size ≤ w5.heap.size := hb5.size
    refine leaves_marks (D0 := w3.heap.size) (X := fun W => W.cell? ⟨w.heap.size + 1 + 1 + 1, 0, none⟩ = some (.bool true) ∧ Below w.heap.size w W) ?_ ?_ Ds _ HND.out ?_ ⟨World.cell?_setCell_same' _ _ _ (by rw [q3]; rfl), HB5.out.setCell (by show _ ≤ w.heap.size + 1 + 1 + 1; omega) _⟩
    · rintro W D ⟨h1, h2⟩ hD0 hd
      exact ⟨cell_kept h1 (grownBy_putObj' W D _) (fun r e => by cases e; exact ⟨_, hd, rfl⟩), h2.grown (grownBy_putObj' W D _) h2.size (fun k e => by cases e; omega)⟩
    · rintro W ⟨h1, h2⟩
      exact ⟨.bool true, by simp [results, Try.f3, go_sem, h1], rfl, h2⟩
    · intro D hd
      exact ⟨(HD.out D hd).1, blk_set_far (HD.out D hd).2 (by have := (HD.out D hd).1; omega) _⟩
  · have hl : decide ((j : Int) < 2) = true := by simp; omega
    have HJ := Aside0.mk (show j < 2 by omega)
    clear hj hj2
    go_wp2
    have hlt3 : w.heap.size + 1 + 1 + 1 < w3.heap.size := blk_lt C3.out
    have hs5 : w3.heap.size ≤ w5.heap.size := hb5.size
    have HLT := Aside0.mk (show w.heap.size + 1 + 1 + 1 < w5.heap.size by omega)
    have HB35 := Aside0.mk hb5
    have HS5 := Aside0.mk hs5
    have h65 : Below w5.heap.size w5 ((w5.alloc (.cells #[.int .i64 0] 3)).alloc (.cells #[.int .i64 0] 3)) := ((Below.refl _ w5).alloc (Nat.le_refl _) _).alloc (by simp) _
    obtain ⟨lb, ev, hseq⟩ := AllV.stops (w0 := (w5.alloc (.cells #[.int .i64 0] 3)).alloc (.cells #[.int .i64 0] 3)) 2 (by decide) (fun k => k = w5.heap.size ∨ k = w5.heap.size + 1) (HA3.out.below hb5) (fun k hk => by rcases hk with rfl | rfl <;> (constructor <;> simp <;> omega)) h65 HLEN.out HHI.out
    subst ev
    have H65 := Aside0.mk h65
    have E6 : Env ((w5.alloc (.cells #[.int .i64 0] 3)).alloc (.cells #[.int .i64 0] 3)) w.heap.size w5.heap.size (w5.heap.size + 1) (.slice A0 s.length c0) fr early 0 0 :=
      ⟨blk_below (blk_below C0.out hb5) h65, blk_below (blk_below C1.out hb5) h65, blk_below (blk_below C2.out hb5) h65, blk_below (blk_below C3.out hb5) h65, blk_alloc (blk_new w5 _) _, by have := blk_new (w5.alloc (.cells #[.int .i64 0] 3)) (.cells #[.int .i64 0] 3); rwa [World.size_alloc] at this⟩
    have HE6 := Aside0.mk E6
    clear E6 h65 hlt3 hs5 hb5 hl
    refine (wpIn_wide (n := 3)).1 ?_
    refine wpIn_rangeFunc_ownG rfl (by decide) (gf := 109) (lb := lb) rfl trivial (enters_of Try.func109 (by kernel_rfl) rfl) hseq KpS.trans KpS.put (Below.refl _ _) (fun _ => rfl)
      (fun pre W => Env W w.heap.size w5.heap.size (w5.heap.size + 1) (.slice A0 s.length c0) fr early (pre.length : Int) (lastI pre) ∧ Below w5.heap.size w5 W ∧ (pre = [] ∨ ((pre.length : Int) < early ∧ pre.length < 300)))
      (fun c pre W => (c = .exit 2 ∧ Env W w.heap.size w5.heap.size (w5.heap.size + 1) (.slice A0 s.length c0) fr early (pre.length : Int) (lastI pre) ∧ Below w5.heap.size w5 W ∧ pre ≠ [] ∧ (early ≤ (pre.length : Int) ∨ 300 ≤ pre.length) ∧ (pre.length = 1 ∨ ((pre.length : Int) - 1 < early ∧ pre.length - 1 < 300))) ∨ (c = .ret ∧ ¬ pre <+: memI l fr))
      ?hI ?hIx ⟨HE6.out, H65.out, .inl rfl⟩
      (fun x => { tmps := #[.slice A0 s.length c0, .int .i64 fr, .int .i64 early, .pointer (some ⟨w.heap.size, 0, none⟩), .pointer (some ⟨w.heap.size + 1, 0, none⟩), .pointer (some ⟨w.heap.size + 1 + 1, 0, none⟩), .pointer (some ⟨w.heap.size + 1 + 1 + 1, 0, none⟩), .func (.func 109) #[] lb, .int .i64 (j : Int), .pointer (some ⟨w5.heap.size, 0, none⟩), .pointer (some ⟨w5.heap.size + 1, 0, none⟩), .int .i64 x, u 12, u 13, u 14, u 15, u 16, u 17, u 18, .bool true, .bool false, .slice A0 s.length c0, .slice A2 s.length c2, .int .i64 fr, .func (.func 109) #[] lb, .int .i64 (j : Int), .bool true, u 27, u 28, .func (.func 109) #[] lb, .int .i64 x, u 31, u 32, u 33, u 34, u 35, u 36, u 37, u 38, u 39, u 40, u 41, u 42, u 43, u 44, u 45, u 46, u 47, u 48, u 49, u 50, u 51, u 52, u 53, u 54, u 55, u 56, u 57, u 58, u 59, u 60, u 61, u 62, u 63, u 64, u 65, u 66, u 67, u 68, u 69, u 70, u 71, u 72, u 73, u 74, u 75, u 76, u 77, u 78, u 79, u 80, u 81, u 82, u 83, u 84, u 85, u 86, u 87, u 88, u 89, u 90, u 91, u 92, u 93, u 94, u 95, u 96, u 97, u 98, u 99, u 100, u 101], defers := [] }) ?assign ?body ?done ?stop
    case hI =>
      rintro pre A B row ⟨h1, h2, h3⟩ hg hr
      exact ⟨h1.kept hg (fun r e => (hr r e).2), (ownFrom_below (β := Unit) (Nat.le_refl _) H65.out.size) () A B row h2 hg hr, h3⟩
    case hIx =>
      rintro c pre A B row (⟨h0, h1, h2, h3⟩ | h) hg hr
      · exact .inl ⟨h0, h1.kept hg (fun r e => (hr r e).2), (ownFrom_below (β := Unit) (Nat.le_refl _) H65.out.size) () A B row h2 hg hr, h3⟩
      · exact .inr h
    case assign =>
      intro l_ x W K hK
      gi_wp2
      exact hK
    case body =>
      rintro l_ pre x W ⟨HE, HBW5, HP⟩ hpl
      have hn : ∃ nI : Int, nI = (pre.length : Int) := ⟨_, rfl⟩
      obtain ⟨nI, hn⟩ := hn
      have hla : ∃ la : Int, la = lastI pre := ⟨_, rfl⟩
      obtain ⟨la, hla⟩ := hla
      rw [← hn, ← hla] at HE
      have HNI := Aside0.mk hn
      have HLA := Aside0.mk hla
      have HPL := Aside0.mk hpl
      have HPP := Aside0.mk HP
      have BW := Aside0.mk HBW5
      have E := Aside0.mk HE
      have HBA := Aside0.mk (below_step HB5.out HBW5)
      clear hn hla hpl HP HBW5 HE q0 q1 q2 q3 f3
      obtain ⟨e0, e1, e2, e3, e4, e5, g3, g4, g5⟩ := E.out.cells
      have KF := Aside0.mk (Below.refl W.heap.size W)
      obtain ⟨kh, hkh⟩ := HH.out x
      have HKH := Aside0.mk hkh
      clear hkh
      by_cases c1 : hasV x = true
      · have C1 := Aside0.mk c1
        rw [c1] at HKH
        clear c1
        by_cases c2 : x < fr
        · have d2 : decide (x < fr) = true := decide_eq_true c2
          have C2 := Aside0.mk c2
          clear c2
          gi_wp2_with (first | (refine ⟨trivial, ?_⟩; gi_at_call 16; with_reducible refine (CallsIn.inRound l_ (callsIn_wide.2 (leadtrailref03_Has.calls kh A0 c0 s x _ _ (Kd.C_below HR.out HBA.out) HC.out HKH.out))).mono ?_; rintro e W2 ⟨rfl, hb2⟩; have n0_ := Aside0.mk (E.out.below hb2); have n1_ := Aside0.mk (below_step BW.out hb2); have n2_ := Aside0.mk (below_step KF.out hb2); have n3_ := Aside0.mk (below_step HBA.out hb2); clear E BW KF HBA hb2; have E := n0_; have BW := n1_; have KF := n2_; have HBA := n3_; clear n0_ n1_ n2_ n3_; obtain ⟨e0, e1, e2, e3, e4, e5, g3, g4, g5⟩ := E.out.cells))
          exact ⟨(KeepsFrom.of_b KF.out).trans ((KeepsOthers.setCell _ _ _).from _), .inr ⟨rfl, fun h_ => by have hg_ := HG.out pre x h_; have := C2.out; omega⟩⟩
        · have d2 : decide (x < fr) = false := decide_eq_false c2
          have C2 := Aside0.mk c2
          clear c2
          obtain ⟨kr, hkr⟩ := HRK.out x
          have hrb := HRB.out x
          generalize hrx : rnk x = rx at hkr hrb
          obtain ⟨r1, r2⟩ := rx
          have HKR := Aside0.mk hkr
          have HRX := Aside0.mk hrx
          have HRBX := Aside0.mk hrb
          clear hkr hrx hrb
          by_cases c3 : pre = []
          · have hz : nI = 0 := by rw [HNI.out, c3]; rfl
            subst hz
            have C3 := Aside0.mk c3
            clear c3
            have d3 : decide ((0 : Int) < 0) = false := rfl
            by_cases c4 : 0 < r1
            · have d4 : decide (0 < r1) = true := decide_eq_true c4
              have C4 := Aside0.mk c4
              clear c4
              have hw1 : wrap64 (r1 - 1) = r1 - 1 := w64o (by have := C4.out; omega) (by have := HRBX.out; simp only at this; omega)
              obtain ⟨ks, hks⟩ := HSEL.out (r1 - 1) (by have := C4.out; omega) (by have := HRBX.out; simp only at this; omega)
              generalize hsx : sel (r1 - 1) = sx at hks
              obtain ⟨s1, s2⟩ := sx
              have HKS := Aside0.mk hks
              have HSX := Aside0.mk hsx
              clear hks hsx
              by_cases c5 : fr ≤ s1
              · have d5 : decide (fr ≤ s1) = true := decide_eq_true c5
                have C5 := Aside0.mk c5
                clear c5
                gi_wp2_with (first | (refine ⟨trivial, ?_⟩; gi_at_call 16; with_reducible refine (CallsIn.inRound l_ (callsIn_wide.2 (leadtrailref03_Has.calls kh A0 c0 s x _ _ (Kd.C_below HR.out HBA.out) HC.out HKH.out))).mono ?_; rintro e W2 ⟨rfl, hb2⟩; have n0_ := Aside0.mk (E.out.below hb2); have n1_ := Aside0.mk (below_step BW.out hb2); have n2_ := Aside0.mk (below_step KF.out hb2); have n3_ := Aside0.mk (below_step HBA.out hb2); clear E BW KF HBA hb2; have E := n0_; have BW := n1_; have KF := n2_; have HBA := n3_; clear n0_ n1_ n2_ n3_; obtain ⟨e0, e1, e2, e3, e4, e5, g3, g4, g5⟩ := E.out.cells) | (refine ⟨trivial, ?_⟩; gi_at_call 17; with_reducible refine (CallsIn.inRound l_ (callsIn_wide.2 (leadtrailref03_Rank.calls kr A0 c0 s x _ _ _ (Kd.C_below HR.out HBA.out) HC.out HKR.out))).mono ?_; rintro e W3 ⟨rfl, hb2⟩; have n0_ := Aside0.mk (E.out.below hb2); have n1_ := Aside0.mk (below_step BW.out hb2); have n2_ := Aside0.mk (below_step KF.out hb2); have n3_ := Aside0.mk (below_step HBA.out hb2); clear E BW KF HBA hb2; have E := n0_; have BW := n1_; have KF := n2_; have HBA := n3_; clear n0_ n1_ n2_ n3_; obtain ⟨e0, e1, e2, e3, e4, e5, g3, g4, g5⟩ := E.out.cells) | (refine ⟨trivial, ?_⟩; gi_at_call 18; with_reducible refine (CallsIn.inRound l_ (callsIn_wide.2 (leadtrailref03_Select.calls ks A0 c0 s (r1 - 1) _ _ _ (Kd.C_below HR.out HBA.out) HC.out HKS.out))).mono ?_; rintro e W5 ⟨rfl, hb2⟩; have n0_ := Aside0.mk (E.out.below hb2); have n1_ := Aside0.mk (below_step BW.out hb2); have n2_ := Aside0.mk (below_step KF.out hb2); have n3_ := Aside0.mk (below_step HBA.out hb2); clear E BW KF HBA hb2; have E := n0_; have BW := n1_; have KF := n2_; have HBA := n3_; clear n0_ n1_ n2_ n3_; obtain ⟨e0, e1, e2, e3, e4, e5, g3, g4, g5⟩ := E.out.cells))
                exact ⟨(KeepsFrom.of_b KF.out).trans ((KeepsOthers.setCell _ _ _).from _), .inr ⟨rfl, fun h_ => by have hg_ := HG.out pre x h_; have h5_ := hg_.2.2.2 C3.out; simp only [HRX.out, HSX.out] at h5_; have := h5_ C4.out; have := C5.out; omega⟩⟩
              · have d5 : decide (fr ≤ s1) = false := decide_eq_false c5
                clear c5
                have hw_ : wrap64 (0 + 1) = 0 + 1 := w64o (by have := HNI.out; omega) (by have := HNI.out; have := HPL.out; have := HNB.out; omega)
                have hL : ((pre ++ [x]).length : Int) = 1 := by have := HNI.out; simp; omega
                have HL_ := Aside0.mk hL
                clear hL
                rcases (show (early ≤ 1) ∨ (¬ early ≤ 1 ∧ 300 ≤ 1) ∨ (¬ early ≤ 1 ∧ ¬ 300 ≤ 1) by omega) with c6 | ⟨c6, c7⟩ | ⟨c6, c7⟩
                · have d6 : decide (early ≤ 1) = true := by first | (simp; done) | (simp; omega)
                  have C6 := Aside0.mk c6
                  clear c6
                  gi_wp2_with (first | (refine ⟨trivial, ?_⟩; gi_at_call 16; with_reducible refine (CallsIn.inRound l_ (callsIn_wide.2 (leadtrailref03_Has.calls kh A0 c0 s x _ _ (Kd.C_below HR.out HBA.out) HC.out HKH.out))).mono ?_; rintro e W2 ⟨rfl, hb2⟩; have n0_ := Aside0.mk (E.out.below hb2); have n1_ := Aside0.mk (below_step BW.out hb2); have n2_ := Aside0.mk (below_step KF.out hb2); have n3_ := Aside0.mk (below_step HBA.out hb2); clear E BW KF HBA hb2; have E := n0_; have BW := n1_; have KF := n2_; have HBA := n3_; clear n0_ n1_ n2_ n3_; obtain ⟨e0, e1, e2, e3, e4, e5, g3, g4, g5⟩ := E.out.cells; have st := E.out.step HLT.out (Nat.lt_succ_self _) (1) x; obtain ⟨k0, k1, k2, k3, k4, k5, y3, y4, y5⟩ := st.cells; have ST := Aside0.mk st; clear st) | (refine ⟨trivial, ?_⟩; gi_at_call 17; with_reducible refine (CallsIn.inRound l_ (callsIn_wide.2 (leadtrailref03_Rank.calls kr A0 c0 s x _ _ _ (Kd.C_below HR.out HBA.out) HC.out HKR.out))).mono ?_; rintro e W3 ⟨rfl, hb2⟩; have n0_ := Aside0.mk (E.out.below hb2); have n1_ := Aside0.mk (below_step BW.out hb2); have n2_ := Aside0.mk (below_step KF.out hb2); have n3_ := Aside0.mk (below_step HBA.out hb2); clear E BW KF HBA hb2; have E := n0_; have BW := n1_; have KF := n2_; have HBA := n3_; clear n0_ n1_ n2_ n3_; obtain ⟨e0, e1, e2, e3, e4, e5, g3, g4, g5⟩ := E.out.cells; have st := E.out.step HLT.out (Nat.lt_succ_self _) (1) x; obtain ⟨k0, k1, k2, k3, k4, k5, y3, y4, y5⟩ := st.cells; have ST := Aside0.mk st; clear st) | (refine ⟨trivial, ?_⟩; gi_at_call 18; with_reducible refine (CallsIn.inRound l_ (callsIn_wide.2 (leadtrailref03_Select.calls ks A0 c0 s (r1 - 1) _ _ _ (Kd.C_below HR.out HBA.out) HC.out HKS.out))).mono ?_; rintro e W5 ⟨rfl, hb2⟩; have n0_ := Aside0.mk (E.out.below hb2); have n1_ := Aside0.mk (below_step BW.out hb2); have n2_ := Aside0.mk (below_step KF.out hb2); have n3_ := Aside0.mk (below_step HBA.out hb2); clear E BW KF HBA hb2; have E := n0_; have BW := n1_; have KF := n2_; have HBA := n3_; clear n0_ n1_ n2_ n3_; obtain ⟨e0, e1, e2, e3, e4, e5, g3, g4, g5⟩ := E.out.cells; have st := E.out.step HLT.out (Nat.lt_succ_self _) (1) x; obtain ⟨k0, k1, k2, k3, k4, k5, y3, y4, y5⟩ := st.cells; have ST := Aside0.mk st; clear st))
                  have hL := HL_.out
                  have hX : lastI (pre ++ [x]) = x := by simp [lastI]
                  have kf : KeepsFrom ((w5.alloc (.cells #[.int .i64 0] 3)).alloc (.cells #[.int .i64 0] 3)).heap.size W _ := ((KeepsFrom.of_b KF.out).trans ((KeepsOthers.setCell _ ⟨w5.heap.size, 0, none⟩ (.int .i64 (1))).from _)).trans ((KeepsOthers.setCell _ ⟨w5.heap.size + 1, 0, none⟩ (.int .i64 x)).from _)
                  have bw := (BW.out.setCell (p := ⟨w5.heap.size, 0, none⟩) (Nat.le_refl _) (.int .i64 (1))).setCell (p := ⟨w5.heap.size + 1, 0, none⟩) (by show _ ≤ w5.heap.size + 1; omega) (.int .i64 x)
                  refine ⟨kf, .inl ⟨rfl, ?_, bw, by simp, ?_, ?_⟩⟩
                  · rw [hL, hX]; exact ST.out
                  · have := C6.out; omega
                  · rcases HPP.out with h_ | h_
                    · left; rw [h_]; rfl
                    · right; have := HNI.out; simp only [List.length_append, List.length_cons, List.length_nil]; omega
                · exact absurd c7 (by omega)
                · have d6 : decide (early ≤ 1) = false := by first | (simp; done) | (simp; omega)
                  have d7 : decide (300 ≤ 1) = false := by first | (simp; done) | (simp; omega)
                  have C6 := Aside0.mk c6
                  clear c6
                  have C7 := Aside0.mk c7
                  clear c7
                  gi_wp2_with (first | (refine ⟨trivial, ?_⟩; gi_at_call 16; with_reducible refine (CallsIn.inRound l_ (callsIn_wide.2 (leadtrailref03_Has.calls kh A0 c0 s x _ _ (Kd.C_below HR.out HBA.out) HC.out HKH.out))).mono ?_; rintro e W2 ⟨rfl, hb2⟩; have n0_ := Aside0.mk (E.out.below hb2); have n1_ := Aside0.mk (below_step BW.out hb2); have n2_ := Aside0.mk (below_step KF.out hb2); have n3_ := Aside0.mk (below_step HBA.out hb2); clear E BW KF HBA hb2; have E := n0_; have BW := n1_; have KF := n2_; have HBA := n3_; clear n0_ n1_ n2_ n3_; obtain ⟨e0, e1, e2, e3, e4, e5, g3, g4, g5⟩ := E.out.cells; have st := E.out.step HLT.out (Nat.lt_succ_self _) (1) x; obtain ⟨k0, k1, k2, k3, k4, k5, y3, y4, y5⟩ := st.cells; have ST := Aside0.mk st; clear st) | (refine ⟨trivial, ?_⟩; gi_at_call 17; with_reducible refine (CallsIn.inRound l_ (callsIn_wide.2 (leadtrailref03_Rank.calls kr A0 c0 s x _ _ _ (Kd.C_below HR.out HBA.out) HC.out HKR.out))).mono ?_; rintro e W3 ⟨rfl, hb2⟩; have n0_ := Aside0.mk (E.out.below hb2); have n1_ := Aside0.mk (below_step BW.out hb2); have n2_ := Aside0.mk (below_step KF.out hb2); have n3_ := Aside0.mk (below_step HBA.out hb2); clear E BW KF HBA hb2; have E := n0_; have BW := n1_; have KF := n2_; have HBA := n3_; clear n0_ n1_ n2_ n3_; obtain ⟨e0, e1, e2, e3, e4, e5, g3, g4, g5⟩ := E.out.cells; have st := E.out.step HLT.out (Nat.lt_succ_self _) (1) x; obtain ⟨k0, k1, k2, k3, k4, k5, y3, y4, y5⟩ := st.cells; have ST := Aside0.mk st; clear st) | (refine ⟨trivial, ?_⟩; gi_at_call 18; with_reducible refine (CallsIn.inRound l_ (callsIn_wide.2 (leadtrailref03_Select.calls ks A0 c0 s (r1 - 1) _ _ _ (Kd.C_below HR.out HBA.out) HC.out HKS.out))).mono ?_; rintro e W5 ⟨rfl, hb2⟩; have n0_ := Aside0.mk (E.out.below hb2); have n1_ := Aside0.mk (below_step BW.out hb2); have n2_ := Aside0.mk (below_step KF.out hb2); have n3_ := Aside0.mk (below_step HBA.out hb2); clear E BW KF HBA hb2; have E := n0_; have BW := n1_; have KF := n2_; have HBA := n3_; clear n0_ n1_ n2_ n3_; obtain ⟨e0, e1, e2, e3, e4, e5, g3, g4, g5⟩ := E.out.cells; have st := E.out.step HLT.out (Nat.lt_succ_self _) (1) x; obtain ⟨k0, k1, k2, k3, k4, k5, y3, y4, y5⟩ := st.cells; have ST := Aside0.mk st; clear st))
                  have hL := HL_.out
                  have hX : lastI (pre ++ [x]) = x := by simp [lastI]
                  have kf : KeepsFrom ((w5.alloc (.cells #[.int .i64 0] 3)).alloc (.cells #[.int .i64 0] 3)).heap.size W _ := ((KeepsFrom.of_b KF.out).trans ((KeepsOthers.setCell _ ⟨w5.heap.size, 0, none⟩ (.int .i64 (1))).from _)).trans ((KeepsOthers.setCell _ ⟨w5.heap.size + 1, 0, none⟩ (.int .i64 x)).from _)
                  have bw := (BW.out.setCell (p := ⟨w5.heap.size, 0, none⟩) (Nat.le_refl _) (.int .i64 (1))).setCell (p := ⟨w5.heap.size + 1, 0, none⟩) (by show _ ≤ w5.heap.size + 1; omega) (.int .i64 x)
                  refine ⟨kf, ((KpS.of_below KF.out).set (g := w5.heap.size) (.inl rfl) 0 _).set (g := w5.heap.size + 1) (.inr rfl) 0 _, ?_, bw, ?_⟩
                  · rw [hL, hX]; exact ST.out
                  · right; have := C6.out; have := C7.out; omega
            · have d4 : decide (0 < r1) = false := decide_eq_false c4
              clear c4
              have hw_ : wrap64 (0 + 1) = 0 + 1 := w64o (by have := HNI.out; omega) (by have := HNI.out; have := HPL.out; have := HNB.out; omega)
              have hL : ((pre ++ [x]).length : Int) = 1 := by have := HNI.out; simp; omega
              have HL_ := Aside0.mk hL
              clear hL
              rcases (show (early ≤ 1) ∨ (¬ early ≤ 1 ∧ 300 ≤ 1) ∨ (¬ early ≤ 1 ∧ ¬ 300 ≤ 1) by omega) with c6 | ⟨c6, c7⟩ | ⟨c6, c7⟩
              · have d6 : decide (early ≤ 1) = true := by first | (simp; done) | (simp; omega)
                have C6 := Aside0.mk c6
                clear c6
                gi_wp2_with (first | (refine ⟨trivial, ?_⟩; gi_at_call 16; with_reducible refine (CallsIn.inRound l_ (callsIn_wide.2 (leadtrailref03_Has.calls kh A0 c0 s x _ _ (Kd.C_below HR.out HBA.out) HC.out HKH.out))).mono ?_; rintro e W2 ⟨rfl, hb2⟩; have n0_ := Aside0.mk (E.out.below hb2); have n1_ := Aside0.mk (below_step BW.out hb2); have n2_ := Aside0.mk (below_step KF.out hb2); have n3_ := Aside0.mk (below_step HBA.out hb2); clear E BW KF HBA hb2; have E := n0_; have BW := n1_; have KF := n2_; have HBA := n3_; clear n0_ n1_ n2_ n3_; obtain ⟨e0, e1, e2, e3, e4, e5, g3, g4, g5⟩ := E.out.cells; have st := E.out.step HLT.out (Nat.lt_succ_self _) (1) x; obtain ⟨k0, k1, k2, k3, k4, k5, y3, y4, y5⟩ := st.cells; have ST := Aside0.mk st; clear st) | (refine ⟨trivial, ?_⟩; gi_at_call 17; with_reducible refine (CallsIn.inRound l_ (callsIn_wide.2 (leadtrailref03_Rank.calls kr A0 c0 s x _ _ _ (Kd.C_below HR.out HBA.out) HC.out HKR.out))).mono ?_; rintro e W3 ⟨rfl, hb2⟩; have n0_ := Aside0.mk (E.out.below hb2); have n1_ := Aside0.mk (below_step BW.out hb2); have n2_ := Aside0.mk (below_step KF.out hb2); have n3_ := Aside0.mk (below_step HBA.out hb2); clear E BW KF HBA hb2; have E := n0_; have BW := n1_; have KF := n2_; have HBA := n3_; clear n0_ n1_ n2_ n3_; obtain ⟨e0, e1, e2, e3, e4, e5, g3, g4, g5⟩ := E.out.cells; have st := E.out.step HLT.out (Nat.lt_succ_self _) (1) x; obtain ⟨k0, k1, k2, k3, k4, k5, y3, y4, y5⟩ := st.cells; have ST := Aside0.mk st; clear st))
                have hL := HL_.out
                have hX : lastI (pre ++ [x]) = x := by simp [lastI]
                have kf : KeepsFrom ((w5.alloc (.cells #[.int .i64 0] 3)).alloc (.cells #[.int .i64 0] 3)).heap.size W _ := ((KeepsFrom.of_b KF.out).trans ((KeepsOthers.setCell _ ⟨w5.heap.size, 0, none⟩ (.int .i64 (1))).from _)).trans ((KeepsOthers.setCell _ ⟨w5.heap.size + 1, 0, none⟩ (.int .i64 x)).from _)
                have bw := (BW.out.setCell (p := ⟨w5.heap.size, 0, none⟩) (Nat.le_refl _) (.int .i64 (1))).setCell (p := ⟨w5.heap.size + 1, 0, none⟩) (by show _ ≤ w5.heap.size + 1; omega) (.int .i64 x)
                refine ⟨kf, .inl ⟨rfl, ?_, bw, by simp, ?_, ?_⟩⟩
                · rw [hL, hX]; exact ST.out
                · have := C6.out; omega
                · rcases HPP.out with h_ | h_
                  · left; rw [h_]; rfl
                  · right; have := HNI.out; simp only [List.length_append, List.length_cons, List.length_nil]; omega
              · exact absurd c7 (by omega)
              · have d6 : decide (early ≤ 1) = false := by first | (simp; done) | (simp; omega)
                have d7 : decide (300 ≤ 1) = false := by first | (simp; done) | (simp; omega)
                have C6 := Aside0.mk c6
                clear c6
                have C7 := Aside0.mk c7
                clear c7
                gi_wp2_with (first | (refine ⟨trivial, ?_⟩; gi_at_call 16; with_reducible refine (CallsIn.inRound l_ (callsIn_wide.2 (leadtrailref03_Has.calls kh A0 c0 s x _ _ (Kd.C_below HR.out HBA.out) HC.out HKH.out))).mono ?_; rintro e W2 ⟨rfl, hb2⟩; have n0_ := Aside0.mk (E.out.below hb2); have n1_ := Aside0.mk (below_step BW.out hb2); have n2_ := Aside0.mk (below_step KF.out hb2); have n3_ := Aside0.mk (below_step HBA.out hb2); clear E BW KF HBA hb2; have E := n0_; have BW := n1_; have KF := n2_; have HBA := n3_; clear n0_ n1_ n2_ n3_; obtain ⟨e0, e1, e2, e3, e4, e5, g3, g4, g5⟩ := E.out.cells; have st := E.out.step HLT.out (Nat.lt_succ_self _) (1) x; obtain ⟨k0, k1, k2, k3, k4, k5, y3, y4, y5⟩ := st.cells; have ST := Aside0.mk st; clear st) | (refine ⟨trivial, ?_⟩; gi_at_call 17; with_reducible refine (CallsIn.inRound l_ (callsIn_wide.2 (leadtrailref03_Rank.calls kr A0 c0 s x _ _ _ (Kd.C_below HR.out HBA.out) HC.out HKR.out))).mono ?_; rintro e W3 ⟨rfl, hb2⟩; have n0_ := Aside0.mk (E.out.below hb2); have n1_ := Aside0.mk (below_step BW.out hb2); have n2_ := Aside0.mk (below_step KF.out hb2); have n3_ := Aside0.mk (below_step HBA.out hb2); clear E BW KF HBA hb2; have E := n0_; have BW := n1_; have KF := n2_; have HBA := n3_; clear n0_ n1_ n2_ n3_; obtain ⟨e0, e1, e2, e3, e4, e5, g3, g4, g5⟩ := E.out.cells; have st := E.out.step HLT.out (Nat.lt_succ_self _) (1) x; obtain ⟨k0, k1, k2, k3, k4, k5, y3, y4, y5⟩ := st.cells; have ST := Aside0.mk st; clear st))
                have hL := HL_.out
                have hX : lastI (pre ++ [x]) = x := by simp [lastI]
                have kf : KeepsFrom ((w5.alloc (.cells #[.int .i64 0] 3)).alloc (.cells #[.int .i64 0] 3)).heap.size W _ := ((KeepsFrom.of_b KF.out).trans ((KeepsOthers.setCell _ ⟨w5.heap.size, 0, none⟩ (.int .i64 (1))).from _)).trans ((KeepsOthers.setCell _ ⟨w5.heap.size + 1, 0, none⟩ (.int .i64 x)).from _)
                have bw := (BW.out.setCell (p := ⟨w5.heap.size, 0, none⟩) (Nat.le_refl _) (.int .i64 (1))).setCell (p := ⟨w5.heap.size + 1, 0, none⟩) (by show _ ≤ w5.heap.size + 1; omega) (.int .i64 x)
                refine ⟨kf, ((KpS.of_below KF.out).set (g := w5.heap.size) (.inl rfl) 0 _).set (g := w5.heap.size + 1) (.inr rfl) 0 _, ?_, bw, ?_⟩
                · rw [hL, hX]; exact ST.out
                · right; have := C6.out; have := C7.out; omega
          · have hp : 0 < nI := by rw [HNI.out]; have := List.length_pos_iff.2 c3; omega
            have d3 : decide (0 < nI) = true := decide_eq_true hp
            have C3 := Aside0.mk c3
            have HP0 := Aside0.mk hp
            clear c3 hp
            by_cases c4 : x ≤ la
            · have d4 : decide (x ≤ la) = true := decide_eq_true c4
              have C4 := Aside0.mk c4
              clear c4
              gi_wp2_with (first | (refine ⟨trivial, ?_⟩; gi_at_call 16; with_reducible refine (CallsIn.inRound l_ (callsIn_wide.2 (leadtrailref03_Has.calls kh A0 c0 s x _ _ (Kd.C_below HR.out HBA.out) HC.out HKH.out))).mono ?_; rintro e W2 ⟨rfl, hb2⟩; have n0_ := Aside0.mk (E.out.below hb2); have n1_ := Aside0.mk (below_step BW.out hb2); have n2_ := Aside0.mk (below_step KF.out hb2); have n3_ := Aside0.mk (below_step HBA.out hb2); clear E BW KF HBA hb2; have E := n0_; have BW := n1_; have KF := n2_; have HBA := n3_; clear n0_ n1_ n2_ n3_; obtain ⟨e0, e1, e2, e3, e4, e5, g3, g4, g5⟩ := E.out.cells))
              exact ⟨(KeepsFrom.of_b KF.out).trans ((KeepsOthers.setCell _ _ _).from _), .inr ⟨rfl, fun h_ => by have hg_ := HG.out pre x h_; have := (hg_.2.2.1 C3.out).1; have := C4.out; have := HLA.out; omega⟩⟩
            · have d4 : decide (x ≤ la) = false := decide_eq_false c4
              have C4 := Aside0.mk c4
              clear c4
              obtain ⟨kl, hkl⟩ := HRK.out la
              have hrb := HRB.out la
              generalize hrx : rnk la = rx at hkl hrb
              obtain ⟨p1, p2⟩ := rx
              have HKL := Aside0.mk hkl
              have HRL := Aside0.mk hrx
              have HRBL := Aside0.mk hrb
              clear hkl hrx hrb
              have hw1 : wrap64 (p1 + 1) = p1 + 1 := w64o (by have := HRBL.out; simp only at this; omega) (by have := HRBL.out; simp only at this; omega)
              by_cases c5 : r1 = p1 + 1
              · have d5 : (r1 != p1 + 1) = false := by simp [c5]
                have d5' : decide (r1 = p1 + 1) = true := decide_eq_true c5
                have d5b : (r1 == p1 + 1) = true := beq_iff_eq.2 c5
                have C5 := Aside0.mk c5
                clear c5
                have hw_ : wrap64 (nI + 1) = nI + 1 := w64o (by have := HNI.out; omega) (by have := HNI.out; have := HPL.out; have := HNB.out; omega)
                have hL : ((pre ++ [x]).length : Int) = nI + 1 := by have := HNI.out; simp; omega
                have HL_ := Aside0.mk hL
                clear hL
                rcases (show (early ≤ nI + 1) ∨ (¬ early ≤ nI + 1 ∧ 300 ≤ nI + 1) ∨ (¬ early ≤ nI + 1 ∧ ¬ 300 ≤ nI + 1) by omega) with c6 | ⟨c6, c7⟩ | ⟨c6, c7⟩
                · have d6 : decide (early ≤ nI + 1) = true := by first | (simp; done) | (simp; omega)
                  have C6 := Aside0.mk c6
                  clear c6
                  gi_wp2_with (first | (refine ⟨trivial, ?_⟩; gi_at_call 16; with_reducible refine (CallsIn.inRound l_ (callsIn_wide.2 (leadtrailref03_Has.calls kh A0 c0 s x _ _ (Kd.C_below HR.out HBA.out) HC.out HKH.out))).mono ?_; rintro e W2 ⟨rfl, hb2⟩; have n0_ := Aside0.mk (E.out.below hb2); have n1_ := Aside0.mk (below_step BW.out hb2); have n2_ := Aside0.mk (below_step KF.out hb2); have n3_ := Aside0.mk (below_step HBA.out hb2); clear E BW KF HBA hb2; have E := n0_; have BW := n1_; have KF := n2_; have HBA := n3_; clear n0_ n1_ n2_ n3_; obtain ⟨e0, e1, e2, e3, e4, e5, g3, g4, g5⟩ := E.out.cells; have st := E.out.step HLT.out (Nat.lt_succ_self _) (nI + 1) x; obtain ⟨k0, k1, k2, k3, k4, k5, y3, y4, y5⟩ := st.cells; have ST := Aside0.mk st; clear st) | (refine ⟨trivial, ?_⟩; gi_at_call 17; with_reducible refine (CallsIn.inRound l_ (callsIn_wide.2 (leadtrailref03_Rank.calls kr A0 c0 s x _ _ _ (Kd.C_below HR.out HBA.out) HC.out HKR.out))).mono ?_; rintro e W3 ⟨rfl, hb2⟩; have n0_ := Aside0.mk (E.out.below hb2); have n1_ := Aside0.mk (below_step BW.out hb2); have n2_ := Aside0.mk (below_step KF.out hb2); have n3_ := Aside0.mk (below_step HBA.out hb2); clear E BW KF HBA hb2; have E := n0_; have BW := n1_; have KF := n2_; have HBA := n3_; clear n0_ n1_ n2_ n3_; obtain ⟨e0, e1, e2, e3, e4, e5, g3, g4, g5⟩ := E.out.cells; have st := E.out.step HLT.out (Nat.lt_succ_self _) (nI + 1) x; obtain ⟨k0, k1, k2, k3, k4, k5, y3, y4, y5⟩ := st.cells; have ST := Aside0.mk st; clear st) | (refine ⟨trivial, ?_⟩; gi_at_call 17; with_reducible refine (CallsIn.inRound l_ (callsIn_wide.2 (leadtrailref03_Rank.calls kl A0 c0 s la _ _ _ (Kd.C_below HR.out HBA.out) HC.out HKL.out))).mono ?_; rintro e W4 ⟨rfl, hb2⟩; have n0_ := Aside0.mk (E.out.below hb2); have n1_ := Aside0.mk (below_step BW.out hb2); have n2_ := Aside0.mk (below_step KF.out hb2); have n3_ := Aside0.mk (below_step HBA.out hb2); clear E BW KF HBA hb2; have E := n0_; have BW := n1_; have KF := n2_; have HBA := n3_; clear n0_ n1_ n2_ n3_; obtain ⟨e0, e1, e2, e3, e4, e5, g3, g4, g5⟩ := E.out.cells; have st := E.out.step HLT.out (Nat.lt_succ_self _) (nI + 1) x; obtain ⟨k0, k1, k2, k3, k4, k5, y3, y4, y5⟩ := st.cells; have ST := Aside0.mk st; clear st))
                  have hL := HL_.out
                  have hX : lastI (pre ++ [x]) = x := by simp [lastI]
                  have kf : KeepsFrom ((w5.alloc (.cells #[.int .i64 0] 3)).alloc (.cells #[.int .i64 0] 3)).heap.size W _ := ((KeepsFrom.of_b KF.out).trans ((KeepsOthers.setCell _ ⟨w5.heap.size, 0, none⟩ (.int .i64 (nI + 1))).from _)).trans ((KeepsOthers.setCell _ ⟨w5.heap.size + 1, 0, none⟩ (.int .i64 x)).from _)
                  have bw := (BW.out.setCell (p := ⟨w5.heap.size, 0, none⟩) (Nat.le_refl _) (.int .i64 (nI + 1))).setCell (p := ⟨w5.heap.size + 1, 0, none⟩) (by show _ ≤ w5.heap.size + 1; omega) (.int .i64 x)
                  refine ⟨kf, .inl ⟨rfl, ?_, bw, by simp, ?_, ?_⟩⟩
                  · rw [hL, hX]; exact ST.out
                  · have := C6.out; omega
                  · rcases HPP.out with h_ | h_
                    · left; rw [h_]; rfl
                    · right; have := HNI.out; simp only [List.length_append, List.length_cons, List.length_nil]; omega
                · have d6 : decide (early ≤ nI + 1) = false := by first | (simp; done) | (simp; omega)
                  have d7 : decide (300 ≤ nI + 1) = true := by first | (simp; done) | (simp; omega)
                  have C6 := Aside0.mk c6
                  clear c6
                  have C7 := Aside0.mk c7
                  clear c7
                  gi_wp2_with (first | (refine ⟨trivial, ?_⟩; gi_at_call 16; with_reducible refine (CallsIn.inRound l_ (callsIn_wide.2 (leadtrailref03_Has.calls kh A0 c0 s x _ _ (Kd.C_below HR.out HBA.out) HC.out HKH.out))).mono ?_; rintro e W2 ⟨rfl, hb2⟩; have n0_ := Aside0.mk (E.out.below hb2); have n1_ := Aside0.mk (below_step BW.out hb2); have n2_ := Aside0.mk (below_step KF.out hb2); have n3_ := Aside0.mk (below_step HBA.out hb2); clear E BW KF HBA hb2; have E := n0_; have BW := n1_; have KF := n2_; have HBA := n3_; clear n0_ n1_ n2_ n3_; obtain ⟨e0, e1, e2, e3, e4, e5, g3, g4, g5⟩ := E.out.cells; have st := E.out.step HLT.out (Nat.lt_succ_self _) (nI + 1) x; obtain ⟨k0, k1, k2, k3, k4, k5, y3, y4, y5⟩ := st.cells; have ST := Aside0.mk st; clear st) | (refine ⟨trivial, ?_⟩; gi_at_call 17; with_reducible refine (CallsIn.inRound l_ (callsIn_wide.2 (leadtrailref03_Rank.calls kr A0 c0 s x _ _ _ (Kd.C_below HR.out HBA.out) HC.out HKR.out))).mono ?_; rintro e W3 ⟨rfl, hb2⟩; have n0_ := Aside0.mk (E.out.below hb2); have n1_ := Aside0.mk (below_step BW.out hb2); have n2_ := Aside0.mk (below_step KF.out hb2); have n3_ := Aside0.mk (below_step HBA.out hb2); clear E BW KF HBA hb2; have E := n0_; have BW := n1_; have KF := n2_; have HBA := n3_; clear n0_ n1_ n2_ n3_; obtain ⟨e0, e1, e2, e3, e4, e5, g3, g4, g5⟩ := E.out.cells; have st := E.out.step HLT.out (Nat.lt_succ_self _) (nI + 1) x; obtain ⟨k0, k1, k2, k3, k4, k5, y3, y4, y5⟩ := st.cells; have ST := Aside0.mk st; clear st) | (refine ⟨trivial, ?_⟩; gi_at_call 17; with_reducible refine (CallsIn.inRound l_ (callsIn_wide.2 (leadtrailref03_Rank.calls kl A0 c0 s la _ _ _ (Kd.C_below HR.out HBA.out) HC.out HKL.out))).mono ?_; rintro e W4 ⟨rfl, hb2⟩; have n0_ := Aside0.mk (E.out.below hb2); have n1_ := Aside0.mk (below_step BW.out hb2); have n2_ := Aside0.mk (below_step KF.out hb2); have n3_ := Aside0.mk (below_step HBA.out hb2); clear E BW KF HBA hb2; have E := n0_; have BW := n1_; have KF := n2_; have HBA := n3_; clear n0_ n1_ n2_ n3_; obtain ⟨e0, e1, e2, e3, e4, e5, g3, g4, g5⟩ := E.out.cells; have st := E.out.step HLT.out (Nat.lt_succ_self _) (nI + 1) x; obtain ⟨k0, k1, k2, k3, k4, k5, y3, y4, y5⟩ := st.cells; have ST := Aside0.mk st; clear st))
                  have hL := HL_.out
                  have hX : lastI (pre ++ [x]) = x := by simp [lastI]
                  have kf : KeepsFrom ((w5.alloc (.cells #[.int .i64 0] 3)).alloc (.cells #[.int .i64 0] 3)).heap.size W _ := ((KeepsFrom.of_b KF.out).trans ((KeepsOthers.setCell _ ⟨w5.heap.size, 0, none⟩ (.int .i64 (nI + 1))).from _)).trans ((KeepsOthers.setCell _ ⟨w5.heap.size + 1, 0, none⟩ (.int .i64 x)).from _)
                  have bw := (BW.out.setCell (p := ⟨w5.heap.size, 0, none⟩) (Nat.le_refl _) (.int .i64 (nI + 1))).setCell (p := ⟨w5.heap.size + 1, 0, none⟩) (by show _ ≤ w5.heap.size + 1; omega) (.int .i64 x)
                  refine ⟨kf, .inl ⟨rfl, ?_, bw, by simp, ?_, ?_⟩⟩
                  · rw [hL, hX]; exact ST.out
                  · have := C6.out; have := C7.out; omega
                  · rcases HPP.out with h_ | h_
                    · left; rw [h_]; rfl
                    · right; have := HNI.out; simp only [List.length_append, List.length_cons, List.length_nil]; omega
                · have d6 : decide (early ≤ nI + 1) = false := by first | (simp; done) | (simp; omega)
                  have d7 : decide (300 ≤ nI + 1) = false := by first | (simp; done) | (simp; omega)
                  have C6 := Aside0.mk c6
                  clear c6
                  have C7 := Aside0.mk c7
                  clear c7
                  gi_wp2_with (first | (refine ⟨trivial, ?_⟩; gi_at_call 16; with_reducible refine (CallsIn.inRound l_ (callsIn_wide.2 (leadtrailref03_Has.calls kh A0 c0 s x _ _ (Kd.C_below HR.out HBA.out) HC.out HKH.out))).mono ?_; rintro e W2 ⟨rfl, hb2⟩; have n0_ := Aside0.mk (E.out.below hb2); have n1_ := Aside0.mk (below_step BW.out hb2); have n2_ := Aside0.mk (below_step KF.out hb2); have n3_ := Aside0.mk (below_step HBA.out hb2); clear E BW KF HBA hb2; have E := n0_; have BW := n1_; have KF := n2_; have HBA := n3_; clear n0_ n1_ n2_ n3_; obtain ⟨e0, e1, e2, e3, e4, e5, g3, g4, g5⟩ := E.out.cells; have st := E.out.step HLT.out (Nat.lt_succ_self _) (nI + 1) x; obtain ⟨k0, k1, k2, k3, k4, k5, y3, y4, y5⟩ := st.cells; have ST := Aside0.mk st; clear st) | (refine ⟨trivial, ?_⟩; gi_at_call 17; with_reducible refine (CallsIn.inRound l_ (callsIn_wide.2 (leadtrailref03_Rank.calls kr A0 c0 s x _ _ _ (Kd.C_below HR.out HBA.out) HC.out HKR.out))).mono ?_; rintro e W3 ⟨rfl, hb2⟩; have n0_ := Aside0.mk (E.out.below hb2); have n1_ := Aside0.mk (below_step BW.out hb2); have n2_ := Aside0.mk (below_step KF.out hb2); have n3_ := Aside0.mk (below_step HBA.out hb2); clear E BW KF HBA hb2; have E := n0_; have BW := n1_; have KF := n2_; have HBA := n3_; clear n0_ n1_ n2_ n3_; obtain ⟨e0, e1, e2, e3, e4, e5, g3, g4, g5⟩ := E.out.cells; have st := E.out.step HLT.out (Nat.lt_succ_self _) (nI + 1) x; obtain ⟨k0, k1, k2, k3, k4, k5, y3, y4, y5⟩ := st.cells; have ST := Aside0.mk st; clear st) | (refine ⟨trivial, ?_⟩; gi_at_call 17; with_reducible refine (CallsIn.inRound l_ (callsIn_wide.2 (leadtrailref03_Rank.calls kl A0 c0 s la _ _ _ (Kd.C_below HR.out HBA.out) HC.out HKL.out))).mono ?_; rintro e W4 ⟨rfl, hb2⟩; have n0_ := Aside0.mk (E.out.below hb2); have n1_ := Aside0.mk (below_step BW.out hb2); have n2_ := Aside0.mk (below_step KF.out hb2); have n3_ := Aside0.mk (below_step HBA.out hb2); clear E BW KF HBA hb2; have E := n0_; have BW := n1_; have KF := n2_; have HBA := n3_; clear n0_ n1_ n2_ n3_; obtain ⟨e0, e1, e2, e3, e4, e5, g3, g4, g5⟩ := E.out.cells; have st := E.out.step HLT.out (Nat.lt_succ_self _) (nI + 1) x; obtain ⟨k0, k1, k2, k3, k4, k5, y3, y4, y5⟩ := st.cells; have ST := Aside0.mk st; clear st))
                  have hL := HL_.out
                  have hX : lastI (pre ++ [x]) = x := by simp [lastI]
                  have kf : KeepsFrom ((w5.alloc (.cells #[.int .i64 0] 3)).alloc (.cells #[.int .i64 0] 3)).heap.size W _ := ((KeepsFrom.of_b KF.out).trans ((KeepsOthers.setCell _ ⟨w5.heap.size, 0, none⟩ (.int .i64 (nI + 1))).from _)).trans ((KeepsOthers.setCell _ ⟨w5.heap.size + 1, 0, none⟩ (.int .i64 x)).from _)
                  have bw := (BW.out.setCell (p := ⟨w5.heap.size, 0, none⟩) (Nat.le_refl _) (.int .i64 (nI + 1))).setCell (p := ⟨w5.heap.size + 1, 0, none⟩) (by show _ ≤ w5.heap.size + 1; omega) (.int .i64 x)
                  refine ⟨kf, ((KpS.of_below KF.out).set (g := w5.heap.size) (.inl rfl) 0 _).set (g := w5.heap.size + 1) (.inr rfl) 0 _, ?_, bw, ?_⟩
                  · rw [hL, hX]; exact ST.out
                  · right; have := C6.out; have := C7.out; omega
              · have d5 : (r1 != p1 + 1) = true := by simp [c5]
                have d5' : decide (r1 = p1 + 1) = false := decide_eq_false c5
                have d5b : (r1 == p1 + 1) = false := by simp [c5]
                have C5 := Aside0.mk c5
                clear c5
                gi_wp2_with (first | (refine ⟨trivial, ?_⟩; gi_at_call 16; with_reducible refine (CallsIn.inRound l_ (callsIn_wide.2 (leadtrailref03_Has.calls kh A0 c0 s x _ _ (Kd.C_below HR.out HBA.out) HC.out HKH.out))).mono ?_; rintro e W2 ⟨rfl, hb2⟩; have n0_ := Aside0.mk (E.out.below hb2); have n1_ := Aside0.mk (below_step BW.out hb2); have n2_ := Aside0.mk (below_step KF.out hb2); have n3_ := Aside0.mk (below_step HBA.out hb2); clear E BW KF HBA hb2; have E := n0_; have BW := n1_; have KF := n2_; have HBA := n3_; clear n0_ n1_ n2_ n3_; obtain ⟨e0, e1, e2, e3, e4, e5, g3, g4, g5⟩ := E.out.cells) | (refine ⟨trivial, ?_⟩; gi_at_call 17; with_reducible refine (CallsIn.inRound l_ (callsIn_wide.2 (leadtrailref03_Rank.calls kr A0 c0 s x _ _ _ (Kd.C_below HR.out HBA.out) HC.out HKR.out))).mono ?_; rintro e W3 ⟨rfl, hb2⟩; have n0_ := Aside0.mk (E.out.below hb2); have n1_ := Aside0.mk (below_step BW.out hb2); have n2_ := Aside0.mk (below_step KF.out hb2); have n3_ := Aside0.mk (below_step HBA.out hb2); clear E BW KF HBA hb2; have E := n0_; have BW := n1_; have KF := n2_; have HBA := n3_; clear n0_ n1_ n2_ n3_; obtain ⟨e0, e1, e2, e3, e4, e5, g3, g4, g5⟩ := E.out.cells) | (refine ⟨trivial, ?_⟩; gi_at_call 17; with_reducible refine (CallsIn.inRound l_ (callsIn_wide.2 (leadtrailref03_Rank.calls kl A0 c0 s la _ _ _ (Kd.C_below HR.out HBA.out) HC.out HKL.out))).mono ?_; rintro e W4 ⟨rfl, hb2⟩; have n0_ := Aside0.mk (E.out.below hb2); have n1_ := Aside0.mk (below_step BW.out hb2); have n2_ := Aside0.mk (below_step KF.out hb2); have n3_ := Aside0.mk (below_step HBA.out hb2); clear E BW KF HBA hb2; have E := n0_; have BW := n1_; have KF := n2_; have HBA := n3_; clear n0_ n1_ n2_ n3_; obtain ⟨e0, e1, e2, e3, e4, e5, g3, g4, g5⟩ := E.out.cells))
                exact ⟨(KeepsFrom.of_b KF.out).trans ((KeepsOthers.setCell _ _ _).from _), .inr ⟨rfl, fun h_ => by have hg_ := HG.out pre x h_; have h5_ := (hg_.2.2.1 C3.out).2; rw [← HLA.out, HRX.out, HRL.out] at h5_; exact C5.out h5_⟩⟩
      · have c1' : hasV x = false := by simpa using c1
        have C1 := Aside0.mk c1'
        rw [c1'] at HKH
        clear c1 c1'
        gi_wp2_with (first | (refine ⟨trivial, ?_⟩; gi_at_call 16; with_reducible refine (CallsIn.inRound l_ (callsIn_wide.2 (leadtrailref03_Has.calls kh A0 c0 s x _ _ (Kd.C_below HR.out HBA.out) HC.out HKH.out))).mono ?_; rintro e W2 ⟨rfl, hb2⟩; have n0_ := Aside0.mk (E.out.below hb2); have n1_ := Aside0.mk (below_step BW.out hb2); have n2_ := Aside0.mk (below_step KF.out hb2); have n3_ := Aside0.mk (below_step HBA.out hb2); clear E BW KF HBA hb2; have E := n0_; have BW := n1_; have KF := n2_; have HBA := n3_; clear n0_ n1_ n2_ n3_; obtain ⟨e0, e1, e2, e3, e4, e5, g3, g4, g5⟩ := E.out.cells))
        exact ⟨(KeepsFrom.of_b KF.out).trans ((KeepsOthers.setCell _ _ _).from _), .inr ⟨rfl, fun h_ => by have hg_ := HG.out pre x h_; have := hg_.1; rw [C1.out] at this; cases this⟩⟩
    case done =>
      rintro D ys W hD hys ⟨hE, hBW, hP⟩ hK
      subst hys
      obtain ⟨nI, hn⟩ : ∃ nI : Int, nI = ((memI l fr).length : Int) := ⟨_, rfl⟩
      rw [← hn] at hE
      have HDD := Aside0.mk hD
      have HK := Aside0.mk hK
      have HPP := Aside0.mk hP
      have BW := Aside0.mk hBW
      have E := Aside0.mk hE
      obtain ⟨e0, e1, e2, e3, e4, e5, g3, g4, g5⟩ := hE.cells
      have HBA := Aside0.mk (below_step HB5.out hBW)
      have hne : nI = min ((memI l fr).length : Int) (min (max early 1) 300) := by
        rw [hn]
        rcases hP with h | ⟨h, h'⟩
        · rw [h]; simp only [List.length_nil]; omega
        · omega
      have hw_ : wrap64 ((j : Int) + 1) = (j : Int) + 1 := by have := HJ.out; exact w64o (by omega) (by omega)
      have d1 : ((nI != min ((memI l fr).length : Int) (min (max early 1) 300))) = false := by simp only [bne_eq_false_iff_eq]; exact hne
      have d2 : decide (nI = min ((memI l fr).length : Int) (min (max early 1) 300)) = true := decide_eq_true hne
      have d3 : (nI == min ((memI l fr).length : Int) (min (max early 1) 300)) = true := beq_iff_eq.2 hne
      clear hne hn
      clear hD hK hP hBW hE q0 q1 q2 q3 f3
      go_wp2_with (first
        | (go_at_call 20; refine (leadtrailref03_Meet.calls k A0 c0 s (some ⟨W.heap.size, 0, none⟩) 1 [(⟨max fr 0, 255⟩ : S34)] m _ (Kd.C_below HR.out (below_alloc HBA.out _)) HC.out (Kd.R_reads' (lit1 W _ _)).2.2 (Nat.le_refl _) HMEET.out).mono ?_; rintro e W2 ⟨v2, rfl, hm2, hb2⟩; obtain ⟨A4, c4, e4_⟩ := Kd.R_slice hm2; subst e4_; have HM2 := Aside0.mk hm2; have HK2 := Aside0.mk (below_step (below_alloc (Below.refl W.heap.size W) _) hb2); clear hm2 hb2)
        | (go_at_call 19; refine (leadtrailref03_Size.calls k A4 c4 m _ _ (Kd.R_reads' HM2.out).2.2 (Kd.R_reads' HM2.out).2.1 HSZ.out).mono ?_; rintro e W6 ⟨rfl, hb2⟩; have HK6 := Aside0.mk (below_step HK2.out hb2); clear hb2; obtain ⟨e0, e1, e2, e3, e4, e5, g3, g4, g5⟩ := (E.out.below HK6.out).cells))
      rw [hw_]
      refine ⟨⟨j + 1, D :: Ds, rfl, by have := HJ.out; omega, below_step (below_step HB35.out BW.out) HK6.out, ?_, ?_⟩, ?_⟩
      · refine List.nodup_cons.2 ⟨fun h => ?_, HND.out⟩
        have h1 := (Array.getElem?_eq_some_iff.1 (HD.out D h).2).1
        have h2 := HDD.out
        simp at h2
        omega
      · intro D' h
        rcases List.mem_cons.1 h with rfl | h
        · refine ⟨?_, blk_below HK.out HK6.out⟩
          have h2 := HDD.out
          have := HS5.out
          simp at h2
          omega
        · exact ⟨(HD.out D' h).1, blk_below (blk_below (HD.out D' h).2 BW.out) HK6.out⟩
      · have := HJ.out
        show (2 - ((j : Int) + 1)).toNat < (2 - (j : Int)).toNat
        omega
    case stop =>
      rintro D c pre W hD hSp hIx hK
      rcases hIx with ⟨rfl, hE, hBW, hp0, hp1, hp2⟩ | ⟨rfl, hno⟩
      rotate_left
      · exact absurd hSp hno
      obtain ⟨nI, hn⟩ : ∃ nI : Int, nI = (pre.length : Int) := ⟨_, rfl⟩
      rw [← hn] at hE
      have HDD := Aside0.mk hD
      have HK := Aside0.mk hK
      have BW := Aside0.mk hBW
      have E := Aside0.mk hE
      obtain ⟨e0, e1, e2, e3, e4, e5, g3, g4, g5⟩ := hE.cells
      have HBA := Aside0.mk (below_step HB5.out hBW)
      have hne : nI = min ((memI l fr).length : Int) (min (max early 1) 300) := by
        have h0 := List.length_pos_iff.2 hp0
        have h1 : pre.length ≤ (memI l fr).length := hSp.length_le
        omega
      have hw_ : wrap64 ((j : Int) + 1) = (j : Int) + 1 := by have := HJ.out; exact w64o (by omega) (by omega)
      have d1 : ((nI != min ((memI l fr).length : Int) (min (max early 1) 300))) = false := by simp only [bne_eq_false_iff_eq]; exact hne
      have d2 : decide (nI = min ((memI l fr).length : Int) (min (max early 1) 300)) = true := decide_eq_true hne
      have d3 : (nI == min ((memI l fr).length : Int) (min (max early 1) 300)) = true := beq_iff_eq.2 hne
      clear hne hn
      clear hD hK hSp hp0 hp1 hp2 hBW hE q0 q1 q2 q3 f3
      refine wpIn_wide.2 ?_
      go_wp2_with (first
        | (go_at_call 20; refine (leadtrailref03_Meet.calls k A0 c0 s (some ⟨W.heap.size, 0, none⟩) 1 [(⟨max fr 0, 255⟩ : S34)] m _ (Kd.C_below HR.out (below_alloc HBA.out _)) HC.out (Kd.R_reads' (lit1 W _ _)).2.2 (Nat.le_refl _) HMEET.out).mono ?_; rintro e W2 ⟨v2, rfl, hm2, hb2⟩; obtain ⟨A4, c4, e4_⟩ := Kd.R_slice hm2; subst e4_; have HM2 := Aside0.mk hm2; have HK2 := Aside0.mk (below_step (below_alloc (Below.refl W.heap.size W) _) hb2); clear hm2 hb2)
        | (go_at_call 19; refine (leadtrailref03_Size.calls k A4 c4 m _ _ (Kd.R_reads' HM2.out).2.2 (Kd.R_reads' HM2.out).2.1 HSZ.out).mono ?_; rintro e W6 ⟨rfl, hb2⟩; have HK6 := Aside0.mk (below_step HK2.out hb2); clear hb2; obtain ⟨e0, e1, e2, e3, e4, e5, g3, g4, g5⟩ := (E.out.below HK6.out).cells))
      rw [hw_]
      refine ⟨⟨j + 1, D :: Ds, rfl, by have := HJ.out; omega, below_step (below_step HB35.out BW.out) HK6.out, ?_, ?_⟩, ?_⟩
      · refine List.nodup_cons.2 ⟨fun h => ?_, HND.out⟩
        have h1 := (Array.getElem?_eq_some_iff.1 (HD.out D h).2).1
        have h2 := HDD.out
        simp at h2
        omega
      · intro D' h
        rcases List.mem_cons.1 h with rfl | h
        · refine ⟨?_, blk_below HK.out HK6.out⟩
          have h2 := HDD.out
          have := HS5.out
          simp at h2
          omega
        · exact ⟨(HD.out D' h).1, blk_below (blk_below (HD.out D' h).2 BW.out) HK6.out⟩
      · have := HJ.out
        show (2 - ((j : Int) + 1)).toNat < (2 - (j : Int)).toNat
        omega
end L3
def leadtraillaw03_SpansAll.Good (k : Nat) (s : List S34) (fr early : Int) : Prop :=
  ∃ (l : List S133) (m : List S34) (hasV : Int → Bool) (rnk sel : Int → Int × Bool),
    leadtraillaw03_fixed.f k = some true ∧ leadtraillaw03_copied.f s = some s ∧ spans_set.f k s = some l ∧ l.length ≤ 4611686018427387904 ∧ (∀ r ∈ l, r.f1 ≤ 4611686018427387904 ∧ -4611686018427387904 ≤ r.f0) ∧
    (∀ x, ∃ k, leadtrailref03_Has.f k s x = some (hasV x)) ∧ (∀ x, ∃ k, leadtrailref03_Rank.f k s x = some (rnk x)) ∧ (∀ x, 0 ≤ (rnk x).1 ∧ (rnk x).1 ≤ 4611686018427387904) ∧ (∀ x, 0 ≤ x → x ≤ 4611686018427387904 → ∃ k, leadtrailref03_Select.f k s x = some (sel x)) ∧
    leadtrailref03_Meet.f k s [(⟨max fr 0, 255⟩ : S34)] = some m ∧ leadtrailref03_Size.f k m = some ((memI l fr).length : Int) ∧ (memI l fr).length ≤ 4611686018427387904 ∧
    ∀ pre x, pre ++ [x] <+: memI l fr → hasV x = true ∧ fr ≤ x ∧ (pre ≠ [] → lastI pre < x ∧ (rnk x).1 = (rnk (lastI pre)).1 + 1) ∧ (pre = [] → 0 < (rnk x).1 → (sel ((rnk x).1 - 1)).1 < fr)
open Classical in
noncomputable def leadtraillaw03_SpansAll.f (k : Nat) (s : List S34) (fr early : Int) : Option Bool := if leadtraillaw03_SpansAll.Good k s fr early then some true else none
theorem leadtraillaw03_SpansAll.calls (k : Nat) (A0 : Option Addr) (c0 : Nat) (s : List S34) (fr early : Int) (r : Bool) (w : World) (hr0 : Kd.C k34 w A0 s.length s) (hc0 : s.length ≤ c0) (hf : leadtraillaw03_SpansAll.f k s fr early = some r) :
    Calls Try.prog 3 #[.slice A0 s.length c0, .int .i64 fr, .int .i64 early] w fun e w' => e = .returned (.bool r) ∧ Below w.heap.size w w' := by
  unfold leadtraillaw03_SpansAll.f at hf
  split at hf
  · next h =>
    cases hf
    obtain ⟨l, m, hasV, rnk, sel, h1, h2, h3, h4, h5, h6, h7, h8, h9, h10, h11, h12, h13⟩ := h
    exact L3.lawAll.walk k A0 c0 s fr early l m hasV rnk sel w hr0 hc0 h1 h2 h3 h4 h5 h6 h7 h8 h9 h10 h11 h12 h13
  · cases hf
end Go.Proofs.Ytoljcfocgaonpaa.I
end
