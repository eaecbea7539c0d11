/- Words and laws of this claim, of 5 texts. -/
import Derived.Test.YtoljcfocgaonpaaGreatKaIx0
import Derived.Test.YtoljcfocgaonpaaGreatKaIx1
import Derived.Test.YtoljcfocgaonpaaGreatKaIx10
import Derived.Test.YtoljcfocgaonpaaGreatKaIx11
import Derived.Test.YtoljcfocgaonpaaGreatKaIx12
import Derived.Test.YtoljcfocgaonpaaGreatKaIx13
import Derived.Test.YtoljcfocgaonpaaGreatKaIx14
import Derived.Test.YtoljcfocgaonpaaGreatKaIx15
import Derived.Test.YtoljcfocgaonpaaGreatKaIx16
import Derived.Test.YtoljcfocgaonpaaGreatKaIx17
import Derived.Test.YtoljcfocgaonpaaGreatKaIx18
import Derived.Test.YtoljcfocgaonpaaGreatKaIx19
import Derived.Test.YtoljcfocgaonpaaGreatKaIx2
import Derived.Test.YtoljcfocgaonpaaGreatKaIx20
import Derived.Test.YtoljcfocgaonpaaGreatKaIx21
import Derived.Test.YtoljcfocgaonpaaGreatKaIx3
import Derived.Test.YtoljcfocgaonpaaGreatKaIx4
import Derived.Test.YtoljcfocgaonpaaGreatKaIx5
import Derived.Test.YtoljcfocgaonpaaGreatKaIx6
import Derived.Test.YtoljcfocgaonpaaGreatKaIx7
import Derived.Test.YtoljcfocgaonpaaGreatKaIx8
import Derived.Test.YtoljcfocgaonpaaGreatKaIx9
import Derived.RangeFuncNested
import Derived.RangeFuncBound
import Derived.RangeFuncCalls
import Derived.RangeFuncLeaves
import Derived.Shelf.Abstract
import Derived.Shelf.RegionOpen
import Derived.WalkKit
import Derived.OwnWalkIn
import Derived.TacticsInMore
import Derived.LoopNIn
import Derived.LoopIn
section
namespace Go.Proofs.I
open Go.RowKit Go.Shelf Go.Proofs.Zw.PrintWords Go.Proofs.Zw.PrintLast Go.Proofs.Zw.PrintMore
set_option linter.unusedVariables false
set_option linter.unusedSimpArgs false
def KpS (S : Nat → Prop) (W W' : World) : Prop := W.heap.size ≤ W'.heap.size ∧ ∀ (k : Nat) (o : Obj), W.heap[k]? = some o → o.isCells = true → ¬ S k → W'.heap[k]? = some o
theorem KpS.trans {S : Nat → Prop} {X Y Z : World} (h : KpS S X Y) (k : KpS S Y Z) : KpS S X Z := ⟨Nat.le_trans h.1 k.1, fun i o hi ho hs => k.2 i o (h.2 i o hi ho hs) ho hs⟩
theorem KpS.of_below {S : Nat → Prop} {W W' : World} (h : Below W.heap.size W W') : KpS S W W' := ⟨h.size, fun k o hk _ _ => (h.block k (Array.getElem?_eq_some_iff.1 hk).1).trans hk⟩
theorem KpS.alloc {S : Nat → Prop} {W W' : World} (h : KpS S W W') (o : Obj) : KpS S W (W'.alloc o) := h.trans (KpS.of_below ((Below.refl _ W').alloc (Nat.le_refl _) _))
theorem KpS.put {S : Nat → Prop} {w : World} (W : World) (l : Nat) (o o' : Obj) (_ : w.heap.size ≤ l) (h : W.heap[l]? = some o) (ho : o.isCells = false) (_ : o.isWalk = false) : KpS S W (W.putObj l o') :=
  ⟨(grownBy_putObj' W l o').size, fun k o2 hk h2 _ => ((grownBy_putObj' W l o').block k (Array.getElem?_eq_some_iff.1 hk).1 (fun e => by cases e; rw [h] at hk; cases hk; rw [ho] at h2; cases h2)).trans hk⟩
theorem KpS.set {S : Nat → Prop} {W W' : World} (h : KpS S W W') {g : Nat} (hg : S g) (j : Nat) (v : Value) : KpS S W (W'.setCell ⟨g, j, none⟩ v) :=
  h.trans ⟨(KeepsOthers.setCell W' _ v).size, fun k o hk _ hs => (Below.heap_setCell W' ⟨g, j, none⟩ v k (fun e => hs (by rw [show k = g from e]; exact hg))).trans hk⟩
theorem Hf {W W' : World} {p : Addr} (h : W'.heap[p.block]? = W.heap[p.block]?) : W'.cell? p = W.cell? p := by unfold World.cell?; rw [h]
def rngI (a b : Int) : List Int := (List.range (b + 1 - a).toNat).map fun (i : Nat) => a + (i : Int)
theorem Kn {a b : Int} (h : b < a) : rngI a b = [] := by unfold rngI; rw [show (b + 1 - a).toNat = 0 by omega]; rfl
theorem Pe {a x : Int} (h : a ≤ x) : rngI a x = rngI a (x - 1) ++ [x] := by
  unfold rngI
  rw [show (x + 1 - a).toNat = (x - 1 + 1 - a).toNat + 1 by omega, List.range_succ, List.map_append]
  simp only [List.map_cons, List.map_nil]
  rw [show a + (((x - 1 + 1 - a).toNat : Nat) : Int) = x by omega]
theorem Un {a x b : Int} (h : x ≤ b) : rngI a x <+: rngI a b := by
  by_cases c : x < a
  · rw [Kn c]; exact List.nil_prefix
  · unfold rngI
    rw [show (b + 1 - a).toNat = (x + 1 - a).toNat + (b - x).toNat by omega, List.range_add, List.map_append]
    exact List.prefix_append _ _
def memI (l : List S95) (fr : Int) : List Int := l.flatMap fun r => rngI (max r.f0 fr) r.f1
theorem Tg (r : S95) (t : List S95) (fr : Int) : memI (r :: t) fr = rngI (max r.f0 fr) r.f1 ++ memI t fr := by simp [memI]
theorem Mt (a b : List S95) (fr : Int) : memI (a ++ b) fr = memI a fr ++ memI b fr := by simp [memI]
theorem Ms {l : List S95} {k : Nat} (h : k < l.length) (fr : Int) : memI (l.take (k + 1)) fr = memI (l.take k) fr ++ rngI (max l[k].f0 fr) l[k].f1 := by
  rw [List.take_succ_eq_append_getElem h, Mt, Tg]; simp [memI]
theorem Uu {l : List S95} {k : Nat} (h : k < l.length) (fr : Int) {x : Int} (hx : x ≤ l[k].f1) : memI (l.take k) fr ++ rngI (max l[k].f0 fr) x <+: memI l fr := by
  have e : memI l fr = memI (l.take (k + 1)) fr ++ memI (l.drop (k + 1)) fr := by rw [← Mt, List.take_append_drop]
  rw [e, Ms h]
  exact ((List.prefix_append_right_inj _).2 (Un hx)).trans (List.prefix_append _ _)
def RowS (S : Nat → Prop) (w : World) (A : Option Addr) (l : List S95) : Prop := ∀ (k : Nat) (h : k < l.length), ∃ g o, A = some ⟨g, 0, none⟩ ∧ w.heap[g]? = some o ∧ o.isCells = true ∧ ¬ S g ∧ w.cell? ⟨g, k * 2, none⟩ = some (.int .i64 l[k].f0) ∧ w.cell? ⟨g, k * 2 + 1, none⟩ = some (.int .i64 l[k].f1)
theorem Io {Q : Exit → Act → World → Prop} {a : Act} {w : World} (h : Q .normal a w) : Exit.noGoto Q .normal a w := h
attribute [local go_sem] Oper.semAt_some
attribute [local go_sem] Dw Ec El Es Dd Dj Dr Eb
set_option maxRecDepth 100000 in
set_option maxHeartbeats 4000000 in
theorem all1_in (S : Nat → Prop) (Bl Bf l₀ : Nat) (n : Nat) (hn : 1 ≤ n) (A : Option Addr) (c : Nat) (l : List S95) (fr : Int) (w W : World) (hW : Below w.heap.size w W) (hS : ∀ k, S k → k < w.heap.size) (hBl : w.heap[Bl]? = some (.cells #[.slice A l.length c] 79 (0, 0))) (hSl : ¬ S Bl) (hBf : w.heap[Bf]? = some (.cells #[.int .i64 fr] 3 (0, 0))) (hSf : ¬ S Bf)
    (hC : RowS S w A l) (hlen : l.length ≤ 4611686018427387904) (hhi : ∀ r ∈ l, r.f1 ≤ 4611686018427387904 ∧ -4611686018427387904 ≤ r.f0)
    (J Jx : List Int → World → Prop) (hJal : ∀ pre W o, J pre W → J pre (W.alloc o))
    (hY : ∀ pre x W, J pre W → pre.length < (memI l fr).length → YieldAt Fence.wide (n - 1) Tryz.prog l₀ #[.int .i64 x] W fun e W' =>
      (e = .returned (.bool true) ∧ J (pre ++ [x]) W' ∧ KpS S W W') ∨ (e = .returned (.bool false) ∧ Jx (pre ++ [x]) W'))
    (h0 : J [] W) :
    CallsIn Fence.wide n Tryz.prog 91 #[.func (.yield l₀) #[] #[], .pointer (some ⟨Bl, 0, none⟩), .pointer (some ⟨Bf, 0, none⟩)] W fun e W' => (∃ v, e = .returned v) ∧
      ((∃ ys, ys = memI l fr ∧ J ys W') ∨ (∃ pre, pre <+: memI l fr ∧ Jx pre W')) := by
  have HBl := Aa.mk hBl
  have HBf := Aa.mk hBf
  have HSl := Aa.mk hSl
  have HSf := Aa.mk hSf
  have HS := Aa.mk hS
  have HC := Aa.mk hC
  have HL := Aa.mk hlen
  have HH := Aa.mk hhi
  have HY := Aa.mk hY
  have HAL := Aa.mk hJal
  have hcl : W.cell? ⟨Bl, 0, none⟩ = some (.slice A l.length c) := (Ag (Ce hBl hW) 0).trans rfl
  have HW := Aa.mk (KpS.of_below (S := S) hW)
  have H0 := Aa.mk h0
  clear hBl hBf hC hlen hhi hY hJal hW h0 hSl hSf hS
  refine callsIn_of_wp Tryz.func91 rfl trivial ?_ rfl
  simp only [Tryz.ntmps91, List.size_toArray, List.length_cons, List.length_nil, Nat.reduceAdd, Nat.reduceSub, Array.replicate_succ, Array.replicate_zero, List.push_toArray, List.append_toArray, List.nil_append, List.cons_append]
  refine wpIn_wide.2 (wp_scope_straight ((wpIn_wide (n := n)).1 ?_))
  gi_wp2
  refine wpIn_label ?_
  gi_wp2
  clear hcl
  gi_loopw [9] (fun v9 wr => ∃ k : Nat, v9 = .int .i64 (k : Int) ∧ Aa (k ≤ l.length) ∧ Aa (J (memI (l.take k) fr) wr) ∧ Aa (KpS S w wr)) (fun v9 _ => l.length - (intOf v9).toNat)
  case atStart => exact ⟨0, rfl, ⟨Nat.zero_le _⟩, ⟨by simpa [memI] using H0.out⟩, HW⟩
  case round =>
    clear HW H0
    obtain ⟨k, rfl, HK, HJ, HB⟩ := hrel
    by_cases c1 : k < l.length
    · have cb : decide ((k : Int) < (l.length : Int)) = true := decide_eq_true (by omega)
      have cb2 : decide (k < l.length) = true := decide_eq_true c1
      have p : (0 ≤ (k : Int)) = True := eq_true (by omega)
      have q : ((k : Int) < (l.length : Int)) = True := eq_true (by omega)
      obtain ⟨g, o, eA, hg1, hg2, hg3, hx0, hx1⟩ := HC.out k c1
      subst eA
      replace hx0 := (Hf (p := ⟨g, k * 2, none⟩) ((HB.out.2 g o hg1 hg2 hg3).trans hg1.symm)).trans hx0
      replace hx1 := (Hf (p := ⟨g, k * 2 + 1, none⟩) ((HB.out.2 g o hg1 hg2 hg3).trans hg1.symm)).trans hx1
      clear hg1 hg2 hg3
      have C1 := Aa.mk c1
      have hu95 := Tryz.underlying95
      generalize hr : l[k] = r at hx0 hx1
      have HR := Aa.mk (fun (h_ : k < l.length) => (show l[k]'h_ = r from hr))
      have hmem : r ∈ l := by rw [← hr]; exact List.getElem_mem _
      have hb := HH.out r hmem
      have HBD := Aa.mk hb
      clear hr c1 hmem
      have hf1 := HB.out.2 Bf _ HBf.out rfl HSf.out
      have HBF2 := Aa.mk hf1
      have hcf2 : (wr.alloc (.cells #[.int .i64 r.f0, .int .i64 r.f1] 95)).cell? ⟨Bf, 0, none⟩ = some (.int .i64 fr) := (Ag (Be hf1 _) 0).trans rfl
      have HNW := Aa.mk (Fl wr (.cells #[.int .i64 r.f0, .int .i64 r.f1] 95))
      have HB2 := Aa.mk (HB.out.alloc (.cells #[.int .i64 r.f0, .int .i64 r.f1] 95))
      have HJ2 := Aa.mk (HAL.out _ _ (.cells #[.int .i64 r.f0, .int .i64 r.f1] 95) HJ.out)
      have HGN : Aa (¬ S wr.heap.size) := ⟨fun h => by have := HS.out _ h; have := HB.out.1; omega⟩
      clear hb hf1
      by_cases c2 : r.f1 < fr
      · have db : decide (r.f1 < fr) = true := decide_eq_true c2
        have C2 := Aa.mk c2
        clear c2
        gi_wp2
        have hw : wrap64 ((k : Int) + 1) = ((k + 1 : Nat) : Int) := by rw [w64o (by omega) (by have := C1.out; have := HL.out; omega)]; simp
        go_roundw
        case measure => rw [hw]; have := C1.out; simp [intOf]; omega
        case rel => exact ⟨k + 1, by rw [hw], ⟨by have := C1.out; omega⟩, ⟨by
          rw [Ms C1.out, HR.out C1.out, Kn (by have := C2.out; omega), List.append_nil]; exact HJ2.out⟩, HB2⟩
      · have db : decide (r.f1 < fr) = false := decide_eq_false c2
        have C2 := Aa.mk c2
        clear c2
        have hmx : ∃ m, max r.f0 fr = m := ⟨_, rfl⟩
        obtain ⟨m, hmx⟩ := hmx
        have HM := Aa.mk hmx
        clear hmx
        obtain ⟨gb, HGB⟩ : ∃ gb, Aa (gb = wr.heap.size) := ⟨_, ⟨rfl⟩⟩
        gi_wp2
        all_goals
          have HX := Aa.mk h
          clear h hcf2 hx0 hx1 cb cb2 p q db
          rw [← HGB.out] at HNW HGN ⊢
          gi_loopw [6] (fun v6 w2 => ∃ x : Int, v6 = .int .i64 x ∧ Aa (m ≤ x ∧ (x ≤ r.f1 + 1 ∨ x = m)) ∧ Aa (J (memI (l.take k) fr ++ rngI m (x - 1)) w2) ∧ Aa (KpS S w w2) ∧ Aa (w2.heap[gb]? = some (.cells #[.int .i64 r.f0, .int .i64 r.f1] 95 (0, 0)))) (fun v6 _ => (r.f1 + 1 - intOf v6).toNat)
          case atStart => exact ⟨m, by rw [← HM.out]; congr 1; have := HX.out; omega, ⟨by omega, .inr rfl⟩, ⟨by rw [Kn (show m - 1 < m by omega), List.append_nil]; exact HJ2.out⟩, HB2, HNW⟩
          case round =>
            obtain ⟨x, rfl, HXB, HJ3, HB3, HN3⟩ := hrel
            have hc0 : wr.cell? ⟨gb, 0, none⟩ = some (.int .i64 r.f0) := (Ag HN3.out 0).trans rfl
            have hc1 : wr.cell? ⟨gb, 1, none⟩ = some (.int .i64 r.f1) := (Ag HN3.out 1).trans rfl
            by_cases c3 : x ≤ r.f1
            · have eb : decide (x ≤ r.f1) = true := decide_eq_true c3
              have hpre := Uu C1.out fr (x := x) (by rw [HR.out C1.out]; exact c3)
              rw [HR.out C1.out, HM.out, Pe HXB.out.1, ← List.append_assoc] at hpre
              have hlt : (memI (l.take k) fr ++ rngI m (x - 1)).length < (memI l fr).length := by have := hpre.length_le; rw [List.length_append] at this; simp at this; rw [List.length_append]; omega
              have HPRE := Aa.mk hpre
              obtain ⟨fn, tmps, assign, body, hy, hR⟩ := HY.out _ x wr HJ3.out hlt
              have C3 := Aa.mk c3
              clear hpre hlt c3
              gi_wp2
              refine hR.mono ?_
              rintro e W3 (⟨rfl, hJ3, hk3⟩ | ⟨rfl, hJx3⟩)
              · have HJ4 := Aa.mk hJ3
                have HK4 := Aa.mk hk3
                clear hJ3 hk3 hR hy
                gi_wp2
                have hw : wrap64 (x + 1) = x + 1 := w64o (by have := HBD.out; have := HXB.out; have := HM.out; omega) (by have := HBD.out; have := C3.out; omega)
                go_roundw
                case measure => rw [hw]; have := C3.out; simp [intOf]; omega
                case rel => exact ⟨x + 1, by rw [hw], ⟨by have := HXB.out; omega, .inl (by have := C3.out; omega)⟩, ⟨by
                  rw [show x + 1 - 1 = x by omega, Pe HXB.out.1, ← List.append_assoc]; exact HJ4.out⟩, ⟨HB3.out.trans HK4.out⟩, ⟨HK4.out.2 _ _ HN3.out rfl HGN.out⟩⟩
              · have HJX := Aa.mk hJx3
                clear hJx3 hR hy
                gi_wp2
                refine Io ?_
                go_end0
                exact ⟨⟨_, rfl⟩, .inr ⟨_, HPRE.out, HJX.out⟩⟩
            · have eb : decide (x ≤ r.f1) = false := decide_eq_false c3
              have C3 := Aa.mk c3
              clear c3
              gi_wp2
              have hw : wrap64 ((k : Int) + 1) = ((k + 1 : Nat) : Int) := by rw [w64o (by omega) (by have := C1.out; have := HL.out; omega)]; simp
              go_roundw
              case measure => rw [hw]; have := C1.out; simp [intOf]; omega
              case rel => exact ⟨k + 1, by rw [hw], ⟨by have := C1.out; omega⟩, ⟨by
                rw [Ms C1.out, HR.out C1.out, HM.out]
                have e : rngI m r.f1 = rngI m (x - 1) := by
                  rcases HXB.out.2 with h | h
                  · rw [show x - 1 = r.f1 by have := C3.out; omega]
                  · rw [Kn (show r.f1 < m by have := C3.out; omega), Kn (show x - 1 < m by omega)]
                rw [e]; exact HJ3.out⟩, HB3⟩
    · have cb : decide ((k : Int) < (l.length : Int)) = false := decide_eq_false (by omega)
      have cb2 : decide (k < l.length) = false := decide_eq_false c1
      have hk := Aa.mk (show k = l.length by have := HK.out; omega)
      clear c1
      gi_wp2
      refine Io ?_
      go_end0
      exact ⟨⟨_, rfl⟩, .inl ⟨_, rfl, by have := HJ.out; rw [hk.out, List.take_length] at this; exact this⟩⟩
def RowW (w : World) (A : Option Addr) (l : List S95) : Prop := ∀ (k : Nat) (h : k < l.length), ∃ g o, A = some ⟨g, 0, none⟩ ∧ w.heap[g]? = some o ∧ o.isCells = true ∧ w.cell? ⟨g, k * 2, none⟩ = some (.int .i64 l[k].f0) ∧ w.cell? ⟨g, k * 2 + 1, none⟩ = some (.int .i64 l[k].f1)
theorem RowW.below {w w' : World} {A : Option Addr} {l : List S95} (h : RowW w A l) (hb : Below w.heap.size w w') : RowW w' A l := fun k hk => by
  obtain ⟨g, o, e, h1, h2, h3, h4⟩ := h k hk
  have hlt : g < w.heap.size := (Array.getElem?_eq_some_iff.1 h1).1
  have e1 := hb.block g hlt
  exact ⟨g, o, e, e1.trans h1, h2, (Hf (p := ⟨g, k * 2, none⟩) e1).trans h3, (Hf (p := ⟨g, k * 2 + 1, none⟩) e1).trans h4⟩
theorem rowW_of {w : World} {base : Nat} {ok : Nat → Prop} {A : Option Addr} {c : Nat} {l : List S95} (h : Kd.R k95 95 w base ok (.slice A l.length c) l) : RowW w A l := fun k hk => by
  obtain ⟨g, cap, e, _, _, hc⟩ := Kd.R_form h (by omega)
  obtain ⟨cells, hg⟩ := hc
  injection e with e1 e2 e3
  obtain ⟨ad, e4, hx0, hx1⟩ := Dg (Kd.R_reads' h).2.2 (k : Int) (by omega) (by omega)
  rw [e1] at e4
  injection e4 with e4
  subst e4
  have hrd : Ah l (k : Int) = l[k] := by simp [Ah, List.getD, hk]
  rw [hrd] at hx0 hx1
  simp only [Hg, Int.toNat_natCast, Nat.zero_add] at hx0 hx1
  exact ⟨g, _, e1, hg, rfl, hx0, hx1⟩
theorem Ul.calls (A : Option Addr) (m c : Nat) (fr : Int) (w : World) : Calls Tryz.prog 79 #[.slice A m c, .int .i64 fr] w fun e w' => e = .returned (.func (.func 91) #[] #[.pointer (some ⟨w.heap.size, 0, none⟩), .pointer (some ⟨w.heap.size + 1, 0, none⟩)]) ∧ w' = (w.alloc (.cells #[.slice A m c] 79)).alloc (.cells #[.int .i64 fr] 3) := by
  go_enter Tryz.func79, Tryz.ntmps79
  go_wp2
  go_ret
  exact ⟨rfl, rfl⟩
def AllV (W : World) (v : Value) (l : List S95) (fr : Int) : Prop := ∃ Bl Bf A c, v = .func (.func 91) #[] #[.pointer (some ⟨Bl, 0, none⟩), .pointer (some ⟨Bf, 0, none⟩)] ∧ W.heap[Bl]? = some (.cells #[.slice A l.length c] 79 (0, 0)) ∧ W.heap[Bf]? = some (.cells #[.int .i64 fr] 3 (0, 0)) ∧ RowW W A l
theorem AllV.below {W W' : World} {v : Value} {l : List S95} {fr : Int} (h : AllV W v l fr) (hb : Below W.heap.size W W') : AllV W' v l fr := by
  obtain ⟨Bl, Bf, A, c, e, h1, h2, h3⟩ := h
  exact ⟨Bl, Bf, A, c, e, Ce h1 hb, Ce h2 hb, h3.below hb⟩
theorem AllV.stops {W w0 : World} {v : Value} {l : List S95} {fr : Int} (n : Nat) (hn : 1 ≤ n) (S : Nat → Prop) (h : AllV W v l fr) (hS : ∀ k, S k → W.heap.size ≤ k ∧ k < w0.heap.size) (hb : Below W.heap.size W w0) (hlen : l.length ≤ 4611686018427387904) (hhi : ∀ r ∈ l, r.f1 ≤ 4611686018427387904 ∧ -4611686018427387904 ≤ r.f0) :
    ∃ lb, v = .func (.func 91) #[] lb ∧ SeqStopsK Fence.wide n Tryz.prog 91 lb (fun x : Int => #[Value.int .i64 x]) (KpS S) (fun ys => ys = memI l fr) (fun pre => pre <+: memI l fr) (memI l fr).length w0 := by
  obtain ⟨Bl, Bf, A, c, e, h1, h2, h3⟩ := h
  refine ⟨_, e, fun l₀ J Jx W1 hW hJ _ hY h0 => ?_⟩
  have lt1 : Bl < W.heap.size := (Array.getElem?_eq_some_iff.1 h1).1
  have lt2 : Bf < W.heap.size := (Array.getElem?_eq_some_iff.1 h2).1
  have hr : RowS S w0 A l := fun k hk => by
    obtain ⟨g, o, e, q1, q2, q3, q4⟩ := h3 k hk
    have hlt : g < W.heap.size := (Array.getElem?_eq_some_iff.1 q1).1
    have e1 := hb.block g hlt
    exact ⟨g, o, e, e1.trans q1, q2, fun hs => by have := (hS g hs).1; omega, (Hf (p := ⟨g, k * 2, none⟩) e1).trans q3, (Hf (p := ⟨g, k * 2 + 1, none⟩) e1).trans q4⟩
  exact all1_in S Bl Bf l₀ n hn A c l fr w0 W1 hW (fun k hk => (hS k hk).2) (Ce h1 hb) (fun hs => by have := (hS _ hs).1; omega) (Ce h2 hb) (fun hs => by have := (hS _ hs).1; omega) hr hlen hhi J Jx
    (fun pre W o hj => hJ pre W _ none hj (World.grownBy_alloc W o none) (fun r e => by cases e)) hY h0
set_option maxHeartbeats 4000000 in
theorem Sg.calls (k : Nat) (A0 : Option Addr) (c0 : Nat) (l0 : List S58) (fr : Int) (l : List S95) (w : World) (hr0 : Kd.C k58 w A0 l0.length l0) (hc0 : l0.length ≤ c0) (h : Ee.f k l0 = some l) :
    Calls Tryz.prog 64 #[.slice A0 l0.length c0, .int .i64 fr] w fun e w' => ∃ v, e = .returned v ∧ AllV w' v l fr ∧ Below w.heap.size w w' := by
  have hS := Ee.calls k A0 c0 l0 l w hr0 hc0 h
  clear hr0 hc0 h
  have HS := Aa.mk hS
  clear hS
  go_enter Tryz.func64, Tryz.ntmps64
  go_wp2_with (first | (go_at_call 56; refine HS.out.mono ?_; rintro e w1 ⟨v, rfl, ho, hb⟩; obtain ⟨Ao, co, eo⟩ := Kd.R_slice ho; subst eo; have HO := Aa.mk ho; have HB := Aa.mk hb; clear ho hb HS) | (go_at_call 79; refine (Ul.calls Ao l.length co fr _).mono ?_; rintro e w2 ⟨rfl, rfl⟩))
  go_ret
  have hb2 : Below w1.heap.size w1 ((w1.alloc (.cells #[.slice Ao l.length co] 79)).alloc (.cells #[.int .i64 fr] 3)) := ((Below.refl _ w1).alloc (Nat.le_refl _) _).alloc (by simp) _
  exact ⟨_, rfl, ⟨w1.heap.size, w1.heap.size + 1, Ao, co, rfl, Be (Fl w1 _) _, Ir w1 _ _, (rowW_of HO.out).below hb2⟩, HB.out.trans (hb2.mono HB.out.size)⟩
end Go.Proofs.I
end
section
namespace Go.Proofs.I
open Go.RowKit Go.Shelf Go.Proofs.Zw.PrintWords Go.Proofs.Zw.PrintLast Go.Proofs.Zw.PrintMore
set_option linter.unusedVariables false
set_option linter.unusedSimpArgs false
theorem Vn (k k' : IntKind) (x y : Int) : Builtin.max2 (.int k x) (.int k' y) = pure (.int k (max x y)) := by rw [Dw, show (if x < y then y else x) = max x y by split <;> omega]
theorem Je {F : Fence} {n : Nat} {P : Program} {fn : Func} {tmps : Array Value} {R : Ending → World → Prop} {D0 : Nat} {X : World → Prop} (hX : ∀ W D, X W → D0 ≤ D → W.heap[D]? = some (.deferred (some [])) → X (W.putObj D (.deferred none))) (hE : ∀ W, X W → LeavesInM F n P fn tmps R [] .returning W) :
    ∀ (Ds : List Nat) (W : World), Ds.Nodup → (∀ D ∈ Ds, D0 ≤ D ∧ W.heap[D]? = some (.deferred (some []))) → X W → LeavesInM F n P fn tmps R (Ds.map fun D => { target := .collected D, args := #[] }) .returning W
  | [], W, _, _, hx => hE W hx
  | D :: Ds, W, hn, hd, hx => by
    obtain ⟨d0, d1⟩ := hd D (List.mem_cons_self)
    obtain ⟨n1, n2⟩ := List.nodup_cons.1 hn
    refine ⟨by simp, .inl ⟨D, _, rfl, run_takeDeferred d1, Je hX hE Ds _ n2 (fun D' h' => ?_) (hX W D hx d0 d1)⟩⟩
    obtain ⟨e0, e1⟩ := hd D' (List.mem_cons_of_mem _ h')
    exact ⟨e0, ((grownBy_putObj' W D _).block D' (Array.getElem?_eq_some_iff.1 e1).1 (fun e => by cases e; exact n1 h')).trans e1⟩
theorem Na {W : World} {b : Nat} {u : Value} {t : TypeId} (h : W.heap[b]? = some (.cells #[u] t (0, 0))) (v : Value) : (W.setCell ⟨b, 0, none⟩ v).heap[b]? = some (.cells #[v] t (0, 0)) := by
  simp [World.setCell, Array.getElem?_modify, h]
theorem Iq {W : World} {b c : Nat} {o : Obj} (h : W.heap[c]? = some o) (hne : c ≠ b) (v : Value) : (W.setCell ⟨b, 0, none⟩ v).heap[c]? = some o := (Below.heap_setCell W ⟨b, 0, none⟩ v c hne).trans h
structure Dt (G : Nat → Prop) (W W' : World) : Prop where
  os : W'.os = W.os
  tape : W'.tape = W.tape
  output : W'.output = W.output
  size : W.heap.size ≤ W'.heap.size
  block : ∀ k, k < W.heap.size → ¬ G k → W'.heap[k]? = W.heap[k]?
theorem Dt.of_below {G : Nat → Prop} {W W' : World} (h : Below W.heap.size W W') : Dt G W W' := ⟨h.os, h.tape, h.output, h.size, fun k hk _ => h.block k hk⟩
theorem Dt.below {G : Nat → Prop} {B : Nat} {w W W' : World} (h : Below B w W) (hg : Dt G W W') (hG : ∀ k, G k → B ≤ k) (hB : B ≤ W.heap.size) : Below B w W' :=
  ⟨hg.os.trans h.os, hg.tape.trans h.tape, hg.output.trans h.output, Nat.le_trans h.size hg.size, fun k hk => (hg.block k (by omega) (fun hgk => by have := hG k hgk; omega)).trans (h.block k hk)⟩
def It {α : Type} (B : Nat) (J : (Nat → Prop) → List α → World → Prop) : Prop :=
  ∀ (G G' : Nat → Prop) (pre : List α) (W W' : World), J G pre W → (∀ k, G k → B ≤ k) → Dt G W W' → (∀ k, G' k → G k ∨ W.heap.size ≤ k) → J G' pre W'
theorem It.putObj {α : Type} {B : Nat} {J : (Nat → Prop) → List α → World → Prop} (h : ∀ (G : Nat → Prop) (pre : List α) (W : World) (l : Nat) (o o' : Obj), J G pre W → B ≤ l → W.heap[l]? = some o → o.isCells = false → J G pre (W.putObj l o')) {G : Nat → Prop} {pre : List α} {W : World} {l : Nat} {o : Obj} (o' : Obj) (hs : J G pre W) (hB : B ≤ l) (hl : W.heap[l]? = some o) (ho : o.isCells = false) : J G pre (W.putObj l o') := h G pre W l o o' hs hB hl ho
def lp (fn : FuncId) (t : Array Value) (ps : Array Tmp) (assign body : Code) (D : Nat) (st : LoopState) (pe : Option Code) : Loop := { state := st, pending := pe, fn := fn, tmps := t, params := ps, assign := assign, body := body, defers := D }
def Fm (W : World) (B : Nat) (r : Loop) : Prop := W.heap[B + 1]? = some (.loop r) ∧ W.heap[B]? = some (.deferred (some []))
theorem Fm.stay {W W' : World} {B : Nat} {r : Loop} (h : Fm W B r) (hs : ∀ k, k < B + 2 → k < W.heap.size → W'.heap[k]? = W.heap[k]?) : Fm W' B r :=
  ⟨(hs (B + 1) (by omega) (Array.getElem?_eq_some_iff.1 h.1).1).trans h.1, (hs B (by omega) (Array.getElem?_eq_some_iff.1 h.2).1).trans h.2⟩
theorem Fm.put {W : World} {B : Nat} {r : Loop} (h : Fm W B r) (r' : Loop) : Fm (W.putObj (B + 1) (.loop r')) B r' :=
  ⟨World.putObj_heap_same (Array.getElem?_eq_some_iff.1 h.1).1, (World.putObj_heap_other (by omega)).trans h.2⟩
theorem Fm.kept {W W' : World} {B : Nat} {r : Loop} (h : Fm W B r) (hf : KeepsFrom B W W') : Fm W' B r :=
  ⟨hf.same _ _ (by omega) h.1 rfl, hf.same _ _ (Nat.le_refl _) h.2 rfl⟩
def cloneByte.f (l0 : List (Int)) : Option (List (Int)) := if l0.length < 8796093022208 then some l0 else none
set_option maxHeartbeats 8000000 in
set_option maxRecDepth 100000 in
theorem cloneByte.calls (A0 : Option Addr) (c0 : Nat) (l0 r : List (Int)) (w : World) (hr0 : Kd.C (Kd.int .u8) w A0 l0.length l0) (hc0 : l0.length ≤ c0) (h : cloneByte.f l0 = some r) :
    Calls Tryz.prog 63 #[.slice A0 l0.length c0] w fun e w' => ∃ v0_ : Value, e = .returned v0_ ∧ Kd.R (Kd.int .u8) 5 w' w.heap.size (fun _ => True) v0_ r ∧ Below w.heap.size w w' := by
  unfold cloneByte.f at h
  split at h
  case isFalse => cases h
  case isTrue hbig =>
  obtain rfl := Option.some.inj h
  have HR0 := Aa.mk hr0
  have HL := Aa.mk hbig
  have q22 : ∀ (w : World) (a : Option Addr) (n c n' c' : Nat), (binOp .eql 25 (.slice a n c) (.slice none n' c')).run Tryz.prog w = .ok (.bool a.isNone) w := fun w a n c n' c' => Lib.run_eql_slice_nil w _ _ a n c n' c' Tryz.underlying25
  clear h hbig hc0
  cases A0 with
  | none =>
    have h0 : l0 = [] := by
      rcases Nat.eq_zero_or_pos l0.length with h0 | hp
      · exact List.eq_nil_of_length_eq_zero h0
      · obtain ⟨ad, e, _⟩ := hr0.2.2 hp; cases e
    subst h0
    clear hr0 HR0 HL
    go_enter Tryz.func63, Tryz.ntmps63
    go_wp2
    go_ret
    exact ⟨_, rfl, Kd.R_nil _ _ _ _ _, Below.refl _ _⟩
  | some ad =>
    clear hr0
    have HB := Aa.mk (Below.refl w.heap.size w)
    go_enter Tryz.func63, Tryz.ntmps63
    go_wp2_with (first
      | ((with_reducible refine Bd (N := 5) rfl ?_); refine Kd.R_lit (Kd.int .u8) _ 5 ?hg (N := 5) ?hd (xs := ([] : List (Int))) (inner := []) (ok := fun _ => True) (okp := fun _ => True) ?hr ?hp (fun _ hk => hk) trivial (Below.refl _ _) (Nat.le_refl _) (by simp) ?_; (case hd => rfl); (case hg => rfl); (case hr => first | (go_simp; done) | (go_simp; rfl)); (case hp => exact (Reps.none _ _)); intro v3 w3 ho4 hb hg_ hnew_; clear hg_ hnew_; have n0_ := Aa.mk (Kd.R_lower ho4 (Ar HB.out)); have n1_ := Aa.mk (Dz HB.out hb); clear HB; have HO4 := n0_; have HB := n1_; clear n0_ n1_; clear hb ho4)
      | ((with_reducible refine Di (b := .append) (xs := #[.tmp 5, .tmp 6]) rfl ?_); at_builtin; refine Kd.R_append_rows (Kd.int .u8) (w0 := w) w.heap.size rfl (.tmp 5) (.tmp 6) 25 5 (.int .u8 0) 1 rfl Tryz.underlying25 Ux rfl (by decide) (by omega) v3 [] l0 _ _ _ (fun _ => True) (fun _ => False) rfl rfl ?aO ?aR (fun _ _ h => h) (fun _ h => h.elim) ?aF ?aB ?aS ?aL ?_; (case aR => exact (Kd.C_below HR0.out HB.out)); (case aB => exact HB.out); (case aF => exact (fun _ _ => trivial)); (case aO => exact HO4.out); (case aS => exact (Ar HB.out)); (case aL => have := HL.out; simp only [List.length_nil]; omega); intro v5 w5 ho hb hg hat; rw [List.nil_append] at ho; have n0_ := Aa.mk hb; have n1_ := Aa.mk ho; clear HB; clear HO4; have HB := n0_; have HO5 := n1_; clear n0_ n1_; clear ho hb hg hat))
    go_ret
    exact ⟨_, rfl, HO5.out, HB.out⟩
def SeqH {α : Type} (F : Fence) (n : Nat) (P : Program) (g : Nat) (lb : Array Value) (encs : α → Array Value) (Rd : (Nat → Prop) → List α → α → World → World → Prop) (Kp : World → World → Prop) (S Sp : List α → Prop) (w : World) : Prop :=
  ∀ (l : Nat) (J Jx : (Nat → Prop) → List α → World → Prop) (W : World), Below w.heap.size w W → It W.heap.size J → It W.heap.size Jx → J (fun _ => False) [] W →
    (∀ G0 G pre x Wp W1, (∀ k, G k → W.heap.size ≤ k ∧ k < W1.heap.size) → (∀ k, G0 k → W.heap.size ≤ k) → J G0 pre Wp → Dt G0 Wp W1 → (∀ k, G k → G0 k ∨ Wp.heap.size ≤ k) → Rd G pre x Wp W1 → YieldAt F (n - 1) P l (encs x) W1 fun e W' => (e = .returned (.bool true) ∧ J G (pre ++ [x]) W' ∧ Kp W1 W' ∧ (∀ k, G k → W'.heap[k]? = W1.heap[k]?) ∧ KeepsFrom W.heap.size W1 W') ∨ (e = .returned (.bool false) ∧ Jx G (pre ++ [x]) W' ∧ KeepsFrom W.heap.size W1 W')) →
    CallsIn F n P g (#[.func (.yield l) #[] #[]] ++ lb) W fun e W' => (∃ v, e = .returned v) ∧ ∃ G : Nat → Prop, (∀ k, G k → W.heap.size ≤ k) ∧ ((∃ xs, S xs ∧ J G xs W') ∨ (∃ pre, Sp pre ∧ Jx G pre W'))
theorem KeepsFrom.up {B C : Nat} {W W' : World} (h : KeepsFrom B W W') (hc : B ≤ C) : KeepsFrom C W W' := ⟨h.size, fun k o hk => h.same k o (Nat.le_trans hc hk)⟩
theorem KeepsFrom.put_low {B : Nat} (W : World) {l : Nat} (hl : l < B) (o : Obj) : KeepsFrom B W (W.putObj l o) :=
  ⟨by simp [World.putObj], fun k o2 hk h _ => (World.putObj_heap_other (fun e => by omega)).trans h⟩
theorem Fy {F : Fence} {n : Nat} {P : Program} {α : Type} {g : Operand} {ps : Array Tmp} {assign body : Code} {Q : Exit → Act → World → Prop} {a : Act} {w : World}
    (hro : F.round = none) (h1 : 1 ≤ n) {gf : Nat} {lb : Array Value} (hg : a.eval g = .func (.func gf) #[] lb) (hFg : F.fn gf) (eg : ∀ args w, (callFunc gf args).run P w = .ok (.enter gf args) w)
    {encs : α → Array Value} {Rd : (Nat → Prop) → List α → α → World → World → Prop} {Kp : World → World → Prop} {S Sp : List α → Prop} {w0 : World} (hseq : SeqH F (n - 1) P gf lb encs Rd Kp S Sp w0)
    (hKt : ∀ {A B C : World}, Kp A B → Kp B C → Kp A C) (hKb : ∀ (W : World) (l : Nat) (o o' : Obj), w.heap.size ≤ l → W.heap[l]? = some o → o.isCells = false → o.isWalk = false → Kp W (W.putObj l o')) (hb0 : Below w0.heap.size w0 w) (hps : ∀ x, (encs x).size = ps.size)
    (I : (Nat → Prop) → List α → World → Prop) (Ix : Code → (Nat → Prop) → List α → World → Prop) (hI : ∀ B, w.heap.size ≤ B → It B I) (hIx : ∀ c B, w.heap.size ≤ B → It B (Ix c))
    (hIp : ∀ (G : Nat → Prop) (pre : List α) (W : World) (l : Nat) (o o' : Obj), (∀ k, G k → w.heap.size + 2 ≤ k) → I G pre W → l = w.heap.size + 1 → W.heap[l]? = some o → o.isCells = false → I G pre (W.putObj l o')) (hIxp : ∀ (c : Code) (G : Nat → Prop) (pre : List α) (W : World) (l : Nat) (o o' : Obj), (∀ k, G k → w.heap.size + 2 ≤ k) → Ix c G pre W → l = w.heap.size + 1 → W.heap[l]? = some o → o.isCells = false → Ix c G pre (W.putObj l o'))
    (h0 : I (fun _ => False) [] w) (Ax : (Nat → Prop) → List α → α → Act → World → Prop) (hAx : ∀ G pre x a' (W : World) (o o' : Obj), (∀ k, G k → w.heap.size + 2 ≤ k) → Ax G pre x a' W → W.heap[w.heap.size + 1]? = some o → o.isCells = false → Ax G pre x a' (W.putObj (w.heap.size + 1) o'))
    (hassign : ∀ (l : Nat) (G0 G : Nat → Prop) (pre : List α) (x : α) (Wp W : World) (K : Act → World → Prop), (∀ k, G k → w.heap.size + 2 ≤ k ∧ k < W.heap.size) → (∀ k, G0 k → w.heap.size + 2 ≤ k) → w.heap.size + 2 ≤ Wp.heap.size → I G0 pre Wp → Dt G0 Wp W → (∀ k, G k → G0 k ∨ Wp.heap.size ≤ k) → I G pre W → Rd G pre x Wp W → (∀ a' W', KeepsFrom w.heap.size W W' → Kp W W' → (∀ k, G k → W'.heap[k]? = W.heap[k]?) → I G pre W' → Ax G pre x a' W' → K a' W') →
      assign.wpIn (F.inRound l) (n - 1 - 1) P (Exit.then K (fun _ _ _ => False)) { tmps := (ps.zip (encs x)).foldl (fun t (p, v) => t.setIfInBounds p v) a.tmps, defers := [] } W)
    (hbody : ∀ (l : Nat) (G : Nat → Prop) (pre : List α) (x : α) (a' : Act) (W : World), (∀ k, G k → w.heap.size + 2 ≤ k ∧ k < W.heap.size) → I G pre W → Ax G pre x a' W → body.wpIn (F.inRound l) (n - 1 - 1) P (ownPostG w.heap.size (fun A B => Kp A B ∧ ∀ k, G k → B.heap[k]? = A.heap[k]?) (I G) (fun c => Ix c G) (pre ++ [x]) W) a' W)
    (hdone : ∀ (D : Nat) (G : Nat → Prop) (xs : List α) (W : World), D = w.heap.size → S xs → I G xs W → W.heap[D]? = some (.deferred (some [])) → Q .normal { a with defers := { target := .collected D, args := #[] } :: a.defers } W)
    (hstop : ∀ (D : Nat) (c : Code) (G : Nat → Prop) (pre : List α) (W : World), D = w.heap.size → (∀ k, G k → w.heap.size + 2 ≤ k) → Sp pre → Ix c G pre W → W.heap[D]? = some (.deferred (some [])) → c.wpIn F n P Q { a with defers := { target := .collected D, args := #[] } :: a.defers } W) :
    (Code.rangeFunc g ps assign body).wpIn F n P Q a w := by
  refine wpIn_rangeFunc fun fn hfn => ?_
  rw [hro]
  let r := lp fn a.tmps ps assign body w.heap.size
  have laid : Fm ((w.alloc (.deferred (some []))).alloc (.loop (r .ready none))) w.heap.size (r .ready none) := by
    constructor
    · have := World.alloc_heap_new (w.alloc (.deferred (some []))) (.loop (r .ready none)); rwa [World.size_alloc] at this
    · exact (Below.heap_alloc _ _ _ (by simp)).trans (World.alloc_heap_new w _)
  have inv : I (fun _ => False) [] ((w.alloc (.deferred (some []))).alloc (.loop (r .ready none))) := hI w.heap.size (Nat.le_refl _) (fun _ => False) _ [] w _ h0 (fun _ h => h.elim) (Dt.of_below (((Below.refl _ w).alloc (Nat.le_refl _) _).alloc (by simp) _)) (fun _ h => h.elim)
  have low : Below w0.heap.size w0 ((w.alloc (.deferred (some []))).alloc (.loop (r .ready none))) := hb0.trans ((((Below.refl _ w).alloc (Nat.le_refl _) _).alloc (by simp) _).mono hb0.size)
  have size : ((w.alloc (.deferred (some []))).alloc (.loop (r .ready none))).heap.size = w.heap.size + 2 := by simp
  have enter := run_enterLoop_outer (P := P) (w := w) fn a.tmps ps assign body
  generalize hW1 : (w.alloc (.deferred (some []))).alloc (.loop (r .ready none)) = W1 at laid inv low size
  have enter' : (Instr.enterLoop fn a.tmps ps assign body none).run P w = .ok (w.heap.size + 1, [{ target := .collected w.heap.size, args := #[] }]) W1 := by rw [← hW1]; exact enter
  refine ⟨w.heap.size + 1, [{ target := .collected w.heap.size, args := #[] }], W1, { target := .fn (.func gf) lb, args := #[.func (.yield (w.heap.size + 1)) #[] #[]] }, W1, gf,
    #[.func (.yield (w.heap.size + 1)) #[] #[]] ++ lb, W1, enter', ?_, ?_, ?_, fun _ => h1, ?_⟩
  · simp only [resolve, hg]
    simp [go_sem]
  · intro f' hf'
    simp [Target.leads] at hf'
    subst hf'
    exact hFg
  · simp [invoke, go_sem, eg]
  have far : ∀ {G : Nat → Prop} {A B : World}, (∀ k, G k → W1.heap.size ≤ k) → (∀ k, k < A.heap.size → ¬ G k → B.heap[k]? = A.heap[k]?) → ∀ k, k < w.heap.size + 2 → k < A.heap.size → B.heap[k]? = A.heap[k]? := fun hG hs k hk hA => hs k hA (fun h => by have := hG k h; omega)
  refine (hseq (w.heap.size + 1) (fun G pre W => I G pre W ∧ Fm W w.heap.size (r .ready none)) (fun G pre W => ∃ c, Ix c G pre W ∧ Fm W w.heap.size (r .done (some c))) W1 low ?_ ?_ ⟨inv, laid⟩ ?_).mono ?_
  · exact fun G G' s A B hs hG hg hG' => ⟨hI W1.heap.size (by omega) G G' s A B hs.1 hG hg hG', hs.2.stay (far hG hg.block)⟩
  · rintro G G' s A B ⟨c, hc, hl⟩ hG hg hG'
    exact ⟨c, hIx c W1.heap.size (by omega) G G' s A B hc hG hg hG', hl.stay (far hG hg.block)⟩
  · rintro G0 G pre x Wp W hGr hG0 ⟨hi0, hl0⟩ hg0 hg1 hrd
    have hi := hI W1.heap.size (by omega) G0 G pre Wp W hi0 hG0 hg0 hg1
    have hl := hl0.stay (far hG0 hg0.block)
    have hy : (Instr.yield (w.heap.size + 1) (encs x)).run P W = .ok (.round (w.heap.size + 1) fn _ assign body) W := run_yield hl.1 (hps x)
    refine ⟨fn, _, assign, body, hy, roundIn_of_wpIn hfn (hassign _ G0 G pre x Wp W _ (fun k h => by have := hGr k h; omega) (fun k h => by have := hG0 k h; omega) (by have := (Array.getElem?_eq_some_iff.1 hl0.1).1; omega) hi0 hg0 hg1 hi hrd fun a' V hkf hkv hgv hiv hax => ?_)⟩
    have hlv := hl.kept hkf
    have begins : (Instr.beginRound (w.heap.size + 1)).run P V = .ok () (V.putObj (w.heap.size + 1) (.loop (r .busy none))) := run_beginRound hlv.1 rfl
    refine ⟨_, begins, ?_⟩
    have busy := hlv.put (r .busy none)
    have kp : Kp W (V.putObj (w.heap.size + 1) (.loop (r .busy none))) := hKt hkv (hKb _ _ _ _ (by omega) hlv.1 rfl rfl)
    have gput : ∀ (X : World) (o : Obj) k, G k → (X.putObj (w.heap.size + 1) o).heap[k]? = X.heap[k]? := fun X o k h => World.putObj_heap_other (by have := hGr k h; omega)
    refine wpIn_mono (hbody _ G pre x a' _ (fun k h => by have := hGr k h; have := hkf.size; simp [World.putObj]; omega) (hIp G pre _ _ _ _ (fun k h => by have := hGr k h; omega) hiv rfl hlv.1 rfl) (hAx G pre x a' V _ _ (fun k h => by have := hGr k h; omega) hax hlv.1 rfl)) ?_
    have ends : ∀ (c : Code) (W3 : World), Fm W3 w.heap.size (r .busy none) → (Instr.endRound (w.heap.size + 1) (some c)).run P W3 = .ok (.bool false) (W3.putObj (w.heap.size + 1) (.loop (r .done (some c)))) := fun c W3 h => run_endRound (some c) h.1
    have left : ∀ (c : Code) (W3 : World), KeepsFrom w.heap.size (V.putObj (w.heap.size + 1) (.loop (r .busy none))) W3 → Ix c G (pre ++ [x]) W3 → ∃ v W', (Instr.endRound (w.heap.size + 1) (some c)).run P W3 = .ok v W' ∧
        ((Ending.returned v = .returned (.bool true) ∧ (I G (pre ++ [x]) W' ∧ Fm W' w.heap.size (r .ready none)) ∧ Kp W W' ∧ (∀ k, G k → W'.heap[k]? = W.heap[k]?) ∧ KeepsFrom W1.heap.size W W') ∨ (Ending.returned v = .returned (.bool false) ∧ (∃ c, Ix c G (pre ++ [x]) W' ∧ Fm W' w.heap.size (r .done (some c))) ∧ KeepsFrom W1.heap.size W W')) := fun c W3 hk hx =>
      ⟨_, _, ends c W3 (busy.kept hk), .inr ⟨rfl, ⟨c, hIxp c G _ _ _ _ _ (fun k h => by have := hGr k h; omega) hx rfl (busy.kept hk).1 rfl, (busy.kept hk).put _⟩, (KeepsFrom.up hkf (by omega)).trans ((KeepsFrom.put_low V (by omega) _).trans ((KeepsFrom.up hk (by omega)).trans (KeepsFrom.put_low W3 (by omega) _)))⟩⟩
    intro e a3 W3 hp
    match e, hp with
    | .normal, ⟨hk, ⟨hkp, hgp⟩, hi3⟩ =>
      have h3 := busy.kept hk
      have back : (Instr.endRound (w.heap.size + 1) none).run P W3 = .ok (.bool true) (W3.putObj (w.heap.size + 1) (.loop (r .ready none))) := run_endRound none h3.1
      exact ⟨_, _, back, .inl ⟨rfl, ⟨hIp G _ _ _ _ _ (fun k h => by have := hGr k h; omega) hi3 rfl h3.1 rfl, h3.put _⟩, hKt (hKt kp hkp) (hKb _ _ _ _ (by omega) h3.1 rfl rfl), fun k h => (gput _ _ k h).trans ((hgp k h).trans ((gput _ _ k h).trans (hgv k h))), (KeepsFrom.up hkf (by omega)).trans ((KeepsFrom.put_low V (by omega) _).trans ((KeepsFrom.up hk (by omega)).trans (KeepsFrom.put_low W3 (by omega) _)))⟩⟩
    | .ret, hp => exact left .ret W3 hp.1 hp.2
    | .exit id, hp => exact left (.exit id) W3 hp.1 hp.2
    | .goto t, hp => exact left (.goto t) W3 hp.1 hp.2
    | .panic _, hp => exact hp.elim
    | .outgrown, hp => exact hp.elim
  · rintro e W2 ⟨⟨v, rfl⟩, G, hGr, (⟨xs, hS, hi, hl⟩ | ⟨pre, hSp, c, hi, hl⟩)⟩
    · have ends : (Instr.endLoop (w.heap.size + 1)).run P W2 = .ok none (W2.putObj (w.heap.size + 1) (.loop (r .exhausted none))) := run_endLoop hl.1 (by simp [r, lp])
      exact ⟨none, _, ends, hdone _ G xs _ rfl hS (hIp G _ _ _ _ _ (fun k h => by have := hGr k h; omega) hi rfl hl.1 rfl) (hl.put _).2⟩
    · have ends : (Instr.endLoop (w.heap.size + 1)).run P W2 = .ok (some c) (W2.putObj (w.heap.size + 1) (.loop (r .exhausted (some c)))) := run_endLoop hl.1 (by simp [r, lp])
      exact ⟨some c, _, ends, hstop _ c G pre _ rfl (fun k h => by have := hGr k h; omega) hSp (hIxp c G _ _ _ _ _ (fun k h => by have := hGr k h; omega) hi rfl hl.1 rfl) (hl.put _).2⟩
theorem Fu {F : Fence} {n : Nat} {P : Program} {fn : Func} {tmps : Array Value} {R : Ending → World → Prop} {M : Nat → Prop} {X : World → Prop} (hX : ∀ W D, X W → M D → W.heap[D]? = some (.deferred (some [])) → X (W.putObj D (.deferred none))) (hE : ∀ W, X W → LeavesInM F n P fn tmps R [] .returning W) :
    ∀ (Ds : List Nat) (W : World), Ds.Nodup → (∀ D ∈ Ds, M D ∧ W.heap[D]? = some (.deferred (some []))) → X W → LeavesInM F n P fn tmps R (Ds.map fun D => { target := .collected D, args := #[] }) .returning W
  | [], W, _, _, hx => hE W hx
  | D :: Ds, W, hn, hd, hx => by
    obtain ⟨d0, d1⟩ := hd D (List.mem_cons_self)
    obtain ⟨n1, n2⟩ := List.nodup_cons.1 hn
    refine ⟨by simp, .inl ⟨D, _, rfl, run_takeDeferred d1, Fu hX hE Ds _ n2 (fun D' h' => ?_) (hX W D hx d0 d1)⟩⟩
    obtain ⟨e0, e1⟩ := hd D' (List.mem_cons_of_mem _ h')
    exact ⟨e0, ((grownBy_putObj' W D _).block D' (Array.getElem?_eq_some_iff.1 e1).1 (fun e => by cases e; exact n1 h')).trans e1⟩
theorem Pd {F : Fence} (hd : F.depth = none) (k : Nat) : F.room k := fun d h => by rw [hd] at h; cases h
theorem RoundIn.anyDepth {F : Fence} (hd : F.depth = none) {m m' : Nat} {P : Program} {l : Nat} {f : FuncId} {tmps : Array Value} {assign body : Code} {w : World} {R : Ending → World → Prop}
    (h : RoundIn F m P l f tmps assign body w R) : RoundIn F m' P l f tmps assign body w R := ⟨h.1, fun c cs _ => h.2 c cs (Pd hd _)⟩
theorem RoundIn.within {m m' : Nat} {P : Program} {l l₁ : Nat} {f : FuncId} {tmps : Array Value} {assign body : Code} {w : World} {R : Ending → World → Prop} (h : RoundIn Fence.wide m P l f tmps assign body w R) : RoundIn (Fence.wide.inRound l₁) m' P l f tmps assign body w R :=
  show RoundIn Fence.wide m' P l f tmps assign body w R from RoundIn.anyDepth rfl h
theorem Dt.mono {G G' : Nat → Prop} {A W : World} (h : Dt G A W) (hg : ∀ k, G k → G' k) : Dt G' A W := ⟨h.os, h.tape, h.output, h.size, fun k hk hn => h.block k hk (fun hh => hn (hg k hh))⟩
def KpD (D : Nat → Prop) (W W' : World) : Prop := W.heap.size ≤ W'.heap.size ∧ ∀ k, D k → W'.heap[k]? = W.heap[k]?
theorem KpD.refl (D : Nat → Prop) (W : World) : KpD D W W := ⟨Nat.le_refl _, fun _ _ => rfl⟩
theorem KpD.trans {D : Nat → Prop} {A B C : World} (h : KpD D A B) (k : KpD D B C) : KpD D A C := ⟨Nat.le_trans h.1 k.1, fun i hi => (k.2 i hi).trans (h.2 i hi)⟩
theorem KpD.below {D : Nat → Prop} {A W W' : World} (h : KpD D A W) (hD : ∀ k, D k → k < W.heap.size) (hb : Below W.heap.size W W') : KpD D A W' := ⟨Nat.le_trans h.1 hb.size, fun k hk => (hb.block k (hD k hk)).trans (h.2 k hk)⟩
theorem KpD.set {D : Nat → Prop} {A W : World} (h : KpD D A W) {g : Nat} (hg : ¬ D g) (j : Nat) (v : Value) : KpD D A (W.setCell ⟨g, j, none⟩ v) := ⟨Nat.le_trans h.1 (KeepsOthers.setCell W _ v).size, fun k hk => (Below.heap_setCell W ⟨g, j, none⟩ v k (fun e => hg (by rw [show g = k from e.symm]; exact hk))).trans (h.2 k hk)⟩
theorem KpD.grown {D : Nat → Prop} {A W W' : World} {row : Option Nat} (h : KpD D A W) (hg : W.grownBy W' row) (hD : ∀ k, D k → k < W.heap.size ∧ some k ≠ row) : KpD D A W' := ⟨Nat.le_trans h.1 hg.size, fun k hk => (hg.block k (hD k hk).1 (hD k hk).2).trans (h.2 k hk)⟩
theorem Dt.refl (G : Nat → Prop) (W : World) : Dt G W W := ⟨rfl, rfl, rfl, Nat.le_refl _, fun _ _ _ => rfl⟩
theorem Dt.step {G : Nat → Prop} {A W W' : World} (h : Dt G A W) (hb : Below W.heap.size W W') : Dt G A W' := ⟨hb.os.trans h.os, hb.tape.trans h.tape, hb.output.trans h.output, Nat.le_trans h.size hb.size, fun k hk hg => (hb.block k (Nat.lt_of_lt_of_le hk h.size)).trans (h.block k hk hg)⟩
theorem Dt.set {G : Nat → Prop} {A W : World} (h : Dt G A W) {g : Nat} (hg : G g ∨ A.heap.size ≤ g) (j : Nat) (v : Value) : Dt G A (W.setCell ⟨g, j, none⟩ v) :=
  ⟨h.os, h.tape, h.output, Nat.le_trans h.size (KeepsOthers.setCell W _ v).size, fun k hk hn => (Below.heap_setCell W ⟨g, j, none⟩ v k (fun e => by
    have e : k = g := e
    subst e
    rcases hg with hg | hg
    · exact hn hg
    · omega)).trans (h.block k hk hn)⟩
theorem Dt.put {G : Nat → Prop} {W : World} {k : Nat} (hg : G k) (o : Obj) : Dt G W (W.putObj k o) :=
  have h := grownBy_putObj' W k o
  ⟨h.os, h.tape, h.output, h.size, fun i hi hn => h.block i hi (fun e => by cases e; exact hn hg)⟩
def Oz (ps : List (List S58)) (L : Nat → List S95) : Nat → List Int → Option (List Int)
  | 0, _ => none
  | n + 1, b => match memI (L n) (b.getD n 0 + 1) with
    | x :: _ => some (b.set n (x % 256))
    | [] => Oz ps L n (b.set n ((Ch (ps.getD n []) 0).f0 % 256))
structure AX where
  k : Int
  A : Option Addr
  c : Nat
  b : List Int
def encA (x : AX) : Array Value := #[.int .i64 x.k, .slice x.A x.b.length x.c]
def RdA (k0 : Int) (sq : Nat → List Int) (N : Nat) (G : Nat → Prop) (pre : List AX) (x : AX) (Wp W : World) : Prop :=
  pre.length < N ∧ x.k = k0 + pre.length ∧ x.b = sq pre.length ∧ Kd.R (Kd.int .u8) 5 W Wp.heap.size (fun k => ¬ G k) (.slice x.A x.b.length x.c) x.b
def AllF (k : Nat) (ps : List (List S58)) (a fr : Int) (r1 : List Int) (ok : Bool) (N : Nat) (sq : Nat → List Int) (L : Nat → List S95) : Prop :=
  Bi.f k ps a (max fr 0) = some (r1, ok) ∧ (ok = false → N = 0) ∧
    (ok = true → 1 ≤ N ∧ r1 = sq 0 ∧ max fr 0 + N ≤ 4611686018427387904 ∧ 1 ≤ ps.length ∧ ps.length ≤ 1073741824 ∧
      (∀ t, t < ps.length → Ee.f k (ps.getD t []) = some (L t) ∧ (L t).length ≤ 4611686018427387904 ∧ (∀ r ∈ L t, r.f1 ≤ 4611686018427387904 ∧ -4611686018427387904 ≤ r.f0) ∧ 1 ≤ (ps.getD t []).length) ∧
      ∀ j, j < N → (sq j).length = ps.length ∧ (∀ v ∈ sq j, 0 ≤ v ∧ v ≤ 255) ∧ Oz ps L ps.length (sq j) = if j + 1 < N then some (sq (j + 1)) else none)
end Go.Proofs.I
end
section
namespace Go.Proofs.I
open Go.RowKit Go.Shelf Go.Proofs.Zw.PrintWords Go.Proofs.Zw.PrintLast Go.Proofs.Zw.PrintMore
set_option linter.unusedVariables false
set_option linter.unusedSimpArgs false
theorem Mu {w w1 : World} {p : Addr} {v : Value} (h : Below w.heap.size w w1) (hc : w.cell? p = some v) : w1.cell? p = some v := (h.cell (World.block_lt_of_cell? w p (by rw [hc]))).trans hc
def leftA (z : Int) (a : Act) : Nat := match a.tmps[4]? with | some (Value.int _ i) => (z - i).toNat | _ => 0
def leftI (a : Act) (W : World) : Nat := match a.tmps[7]? with | some (Value.pointer (some p)) => (match W.cell? p with | some (Value.int _ i) => (i + 1).toNat | _ => 0) | _ => 0
theorem Kd.R_eqBlock {α : Type} {d : Kd α} {e : Nat} {w : World} {base g n c : Nat} {xs : List α} (h : Kd.R d e w base (fun _ => True) (.slice (some ⟨g, 0, none⟩) n c) xs) (hd : d.E = [] := by rfl) : Kd.R d e w base (fun k => k = g) (.slice (some ⟨g, 0, none⟩) n c) xs := by
  obtain ⟨_, inner, ho, hr⟩ := h
  exact ⟨fun k hk => by simpa [Value.ownBlock] using hk.symm, inner, ho, hr.imp_ (fun _ _ hp => d.M_mono (fun k hk => by obtain ⟨_, _, _, q, hq, _⟩ := hk; rw [hd] at hq; cases hq) (d.M_bound hp))⟩
def TMA (l₀ gf gp g5 : Nat) (kI : Int) (u : Nat → Value) : Array Value :=
  #[.func (.yield l₀) #[] #[], .pointer (some ⟨gf, 0, none⟩), .pointer (some ⟨gp, 0, none⟩), u 3, .int .i64 kI, .pointer (some ⟨g5, 0, none⟩), .bool true, u 7, u 8, u 9, u 10, u 11, u 12, u 13, u 14, u 15, u 16, u 17, u 18, u 19, u 20, u 21, u 22, u 23, u 24, u 25, u 26, u 27, u 28, u 29, u 30, u 31, u 32, u 33, u 34, u 35, u 36, u 37, u 38, u 39, u 40, u 41, u 42, u 43, u 44, u 45, u 46, u 47, u 48, u 49, u 50, u 51, u 52, u 53, u 54, u 55, u 56, u 57, u 58, u 59, u 60, u 61, u 62, u 63]
def TMI (l₀ gf gp g5 g7 : Nat) (kI : Int) (u : Nat → Value) : Array Value :=
  #[.func (.yield l₀) #[] #[], .pointer (some ⟨gf, 0, none⟩), .pointer (some ⟨gp, 0, none⟩), u 3, .int .i64 kI, .pointer (some ⟨g5, 0, none⟩), .bool true, .pointer (some ⟨g7, 0, none⟩), u 8, u 9, u 10, u 11, u 12, u 13, u 14, u 15, u 16, u 17, u 18, u 19, u 20, u 21, u 22, u 23, u 24, u 25, u 26, u 27, u 28, u 29, u 30, u 31, u 32, u 33, u 34, u 35, u 36, u 37, u 38, u 39, u 40, u 41, u 42, u 43, u 44, u 45, u 46, u 47, u 48, u 49, u 50, u 51, u 52, u 53, u 54, u 55, u 56, u 57, u 58, u 59, u 60, u 61, u 62, u 63]
def Gof (g g5 : Nat) (Ds : List Nat) (k : Nat) : Prop := k = g ∨ k = g5 ∨ k ∈ Ds
structure Lies (D : Nat → Prop) (J : (Nat → Prop) → List AX → World → Prop) (w00 w : World) (g g5 m cb : Nat) (b : List Int) (pre : List AX) (Ds : List Nat) (G0 : Nat → Prop) (Wp W : World) : Prop where
  row : Kd.R (Kd.int .u8) 5 W w.heap.size (fun k => k = g) (.slice (some ⟨g, 0, none⟩) m cb) b
  box : W.heap[g5]? = some (.cells #[.slice (some ⟨g, 0, none⟩) m cb] 25 (0, 0))
  told : J G0 pre Wp
  grown : Dt G0 Wp W
  own : ∀ k, G0 k → w.heap.size ≤ k
  fresh : ∀ k, Gof g g5 Ds k → G0 k ∨ Wp.heap.size ≤ k
  kept : KpD D w00 W
  wp : w.heap.size ≤ Wp.heap.size
  low : w.heap.size ≤ g ∧ w.heap.size ≤ g5
  nodup : Ds.Nodup
  marks : ∀ k ∈ Ds, w.heap.size ≤ k ∧ W.heap[k]? = some (.deferred (some []))
theorem Lies.below {D : Nat → Prop} {J : (Nat → Prop) → List AX → World → Prop} {w00 w : World} {g g5 m cb : Nat} {b : List Int} {pre : List AX} {Ds : List Nat} {G0 : Nat → Prop} {Wp W W' : World} (h : Lies D J w00 w g g5 m cb b pre Ds G0 Wp W) (hD : ∀ k, D k → k < W.heap.size) (hb : Below W.heap.size W W') : Lies D J w00 w g g5 m cb b pre Ds G0 Wp W' where
  row := Kd.R_below h.row hb
  box := Ce h.box hb
  told := h.told
  grown := h.grown.step hb
  own := h.own
  fresh := h.fresh
  kept := KpD.below h.kept hD hb
  wp := h.wp
  low := h.low
  nodup := h.nodup
  marks := fun k hk => ⟨(h.marks k hk).1, Ce (h.marks k hk).2 hb⟩
theorem Lies.apart {D : Nat → Prop} {J : (Nat → Prop) → List AX → World → Prop} {w00 w : World} {g g5 m cb : Nat} {b : List Int} {pre : List AX} {Ds : List Nat} {G0 : Nat → Prop} {Wp W : World} (h : Lies D J w00 w g g5 m cb b pre Ds G0 Wp W) : g5 ≠ g ∧ ∀ k ∈ Ds, k ≠ g := by
  obtain ⟨cells, hg⟩ := Kd.R_typed h.row g rfl
  refine ⟨fun e => ?_, fun k hk e => ?_⟩
  · have := h.box
    rw [e, hg] at this
    injection this with this
    injection this with _ this
    cases this
  · have := (h.marks k hk).2
    rw [e, hg] at this
    cases this
theorem Lies.set {D : Nat → Prop} {J : (Nat → Prop) → List AX → World → Prop} {w00 w : World} {g g5 m cb : Nat} {b : List Int} {pre : List AX} {Ds : List Nat} {G0 : Nat → Prop} {Wp W : World} (h : Lies D J w00 w g g5 m cb b pre Ds G0 Wp W) (hD : ∀ k, D k → k < w.heap.size) (q : Nat) (y : Int) : Lies D J w00 w g g5 m cb (b.set q y) pre Ds G0 Wp (W.setCell ⟨g, q, none⟩ (.int .u8 y)) where
  row := (Kd.R_putg h.row (q : Int) y).1
  box := (Below.heap_setCell W ⟨g, q, none⟩ _ g5 h.apart.1).trans h.box
  told := h.told
  grown := h.grown.set (h.fresh g (.inl rfl)) _ _
  own := h.own
  fresh := h.fresh
  kept := KpD.set h.kept (fun hd => by have := hD g hd; have := h.low.1; omega) _ _
  wp := h.wp
  low := h.low
  nodup := h.nodup
  marks := fun k hk => ⟨(h.marks k hk).1, (Below.heap_setCell W ⟨g, q, none⟩ _ k (h.apart.2 k hk)).trans (h.marks k hk).2⟩
theorem Lies.far {D : Nat → Prop} {J : (Nat → Prop) → List AX → World → Prop} {w00 w : World} {g g5 m cb g7 : Nat} {b : List Int} {pre : List AX} {Ds : List Nat} {G0 : Nat → Prop} {Wp W : World} (h : Lies D J w00 w g g5 m cb b pre Ds G0 Wp W) (hD : ∀ k, D k → k < w.heap.size) {z : Value} (h7 : W.heap[g7]? = some (.cells #[z] 3 (0, 0))) (hlo : Wp.heap.size ≤ g7) (y : Value) : Lies D J w00 w g g5 m cb b pre Ds G0 Wp (W.setCell ⟨g7, 0, none⟩ y) :=
  have n5 : g5 ≠ g7 := fun e => by
    have := h.box
    rw [e, h7] at this
    injection this with this
    injection this with _ this
    cases this
  { row := Kd.R_mono (Kd.R_far (p := ⟨g7, 0, none⟩) (Kd.R_types h.row h7 (by decide)) (fun _ hk => hk.2) y) (fun _ hk => hk.1)
    box := (Below.heap_setCell W ⟨g7, 0, none⟩ _ g5 n5).trans h.box
    told := h.told
    grown := h.grown.set (.inr hlo) _ _
    own := h.own
    fresh := h.fresh
    kept := KpD.set h.kept (fun hd => by have := hD g7 hd; have := h.wp; omega) _ _
    wp := h.wp
    low := h.low
    nodup := h.nodup
    marks := fun k hk => ⟨(h.marks k hk).1, (Below.heap_setCell W ⟨g7, 0, none⟩ _ k (fun e => by
      have := (h.marks k hk).2
      have e : k = g7 := e
      rw [e, h7] at this
      cases this)).trans (h.marks k hk).2⟩ }
theorem Lies.byGrown {D : Nat → Prop} {J : (Nat → Prop) → List AX → World → Prop} {w00 w : World} {g g5 m cb B : Nat} {b : List Int} {pre : List AX} {Ds : List Nat} {G0 : Nat → Prop} {Wp W W' : World} {row : Option Nat} (h : Lies D J w00 w g g5 m cb b pre Ds G0 Wp W) (hD : ∀ k, D k → k < w.heap.size) (hB : Wp.heap.size ≤ B) (hDs : ∀ k ∈ Ds, k < B)
    (hg : W.grownBy W' row) (hr : ∀ r, row = some r → B ≤ r ∧ ∃ o : Obj, W.heap[r]? = some o ∧ o.isCells = false) : Lies D J w00 w g g5 m cb b pre Ds G0 Wp W' where
  row := Kd.R_grown h.row hg (fun k hk e => by
    obtain ⟨_, o, ho, hc⟩ := hr k e.symm
    obtain ⟨cells, hg⟩ := Kd.R_typed h.row g rfl
    have hk : k = g := hk
    rw [hk, hg] at ho
    cases ho
    cases hc)
  box := (grownBy_keeps_cells hg (fun r e => (hr r e).2) h.box rfl).trans h.box
  told := h.told
  grown := ⟨hg.os.trans h.grown.os, hg.tape.trans h.grown.tape, hg.output.trans h.grown.output, Nat.le_trans h.grown.size hg.size, fun k hk hn => (hg.block k (Nat.lt_of_lt_of_le hk h.grown.size) (fun e => by have := (hr k e.symm).1; omega)).trans (h.grown.block k hk hn)⟩
  own := h.own
  fresh := h.fresh
  kept := KpD.grown h.kept hg (fun k hk => by
    have := hD k hk
    have := h.wp
    exact ⟨by have := h.grown.size; omega, fun e => by have := (hr k e.symm).1; omega⟩)
  wp := h.wp
  low := h.low
  nodup := h.nodup
  marks := fun k hk => ⟨(h.marks k hk).1, (hg.block k (Array.getElem?_eq_some_iff.1 (h.marks k hk).2).1 (fun e => by have := (hr k e.symm).1; have := hDs k hk; omega)).trans (h.marks k hk).2⟩
theorem Lies.mark {D : Nat → Prop} {J : (Nat → Prop) → List AX → World → Prop} {w00 w : World} {g g5 m cb M : Nat} {b : List Int} {pre : List AX} {Ds : List Nat} {G0 : Nat → Prop} {Wp W : World} (h : Lies D J w00 w g g5 m cb b pre Ds G0 Wp W) (hM : W.heap[M]? = some (.deferred (some []))) (hlo : Wp.heap.size ≤ M) (hDs : ∀ k ∈ Ds, k < M) : Lies D J w00 w g g5 m cb b pre (M :: Ds) G0 Wp W where
  row := h.row
  box := h.box
  told := h.told
  grown := h.grown
  own := h.own
  fresh := fun k hk => by
    rcases hk with hk | hk | hk
    · exact h.fresh k (.inl hk)
    · exact h.fresh k (.inr (.inl hk))
    · rcases List.mem_cons.1 hk with rfl | hk
      · exact .inr hlo
      · exact h.fresh k (.inr (.inr hk))
  kept := h.kept
  wp := h.wp
  low := h.low
  nodup := List.nodup_cons.2 ⟨fun hm => by have := hDs M hm; omega, h.nodup⟩
  marks := fun k hk => by
    rcases List.mem_cons.1 hk with rfl | hk
    · exact ⟨Nat.le_trans h.wp hlo, hM⟩
    · exact h.marks k hk
theorem Lies.size {D : Nat → Prop} {J : (Nat → Prop) → List AX → World → Prop} {w00 w : World} {g g5 m cb : Nat} {b : List Int} {pre : List AX} {Ds : List Nat} {G0 : Nat → Prop} {Wp W : World} (h : Lies D J w00 w g g5 m cb b pre Ds G0 Wp W) : w.heap.size ≤ W.heap.size := Nat.le_trans h.wp h.grown.size
attribute [local go_sem] Oper.semAt_some
attribute [local go_sem] Vn El Dd Dr
set_option maxHeartbeats 8000000 in
set_option maxRecDepth 100000 in
theorem Ve (n l₀ : Nat) (hn : 2 ≤ n) (k gp gf : Nat) (A0 : Option Addr) (c0 : Nat) (ps : List (List S58)) (a fr : Int) (r1 : List Int) (ok : Bool) (N : Nat) (sq : Nat → List Int) (L : Nat → List S95) (D : Nat → Prop)
    (w00 w : World) (hW : Below w00.heap.size w00 w) (hDw : ∀ k, D k → k < w00.heap.size) (hgf : w00.heap[gf]? = some (.cells #[.int .i64 fr] 3 (0, 0)))
    (hD : ∀ W', KpD D w00 W' → W'.heap[gp]? = some (.cells #[.slice A0 ps.length c0, .int .i64 a] 44 (0, 0)) ∧ Kd.C (Kd.slice 58 k58) W' A0 ps.length ps) (hc : ps.length ≤ c0)
    (hF : AllF k ps a fr r1 ok N sq L)
    (J Jx : (Nat → Prop) → List AX → World → Prop) (hJ : It w.heap.size J) (hJx : It w.heap.size Jx) (h0 : J (fun _ => False) [] w)
    (hY : ∀ G0 G pre x Wp W1, (∀ k, G k → w.heap.size ≤ k ∧ k < W1.heap.size) → (∀ k, G0 k → w.heap.size ≤ k) → J G0 pre Wp → Dt G0 Wp W1 → (∀ k, G k → G0 k ∨ Wp.heap.size ≤ k) → RdA (max fr 0) sq N G pre x Wp W1 → YieldAt Fence.wide (n - 1) Tryz.prog l₀ (encA x) W1 fun e W' => (e = .returned (.bool true) ∧ J G (pre ++ [x]) W' ∧ KpD D W1 W' ∧ (∀ k, G k → W'.heap[k]? = W1.heap[k]?) ∧ KeepsFrom w.heap.size W1 W') ∨ (e = .returned (.bool false) ∧ Jx G (pre ++ [x]) W' ∧ KeepsFrom w.heap.size W1 W')) :
    CallsIn Fence.wide n Tryz.prog 62 #[.func (.yield l₀) #[] #[], .pointer (some ⟨gf, 0, none⟩), .pointer (some ⟨gp, 0, none⟩)] w fun e W' => (∃ v, e = .returned v) ∧ ∃ G : Nat → Prop, (∀ k, G k → w.heap.size ≤ k) ∧ ((∃ xs, xs.length = N ∧ J G xs W') ∨ (∃ pre, (1 ≤ pre.length ∧ pre.length ≤ N) ∧ Jx G pre W')) := by
  have hu44 := Tryz.underlying44
  have hu25 := Tryz.underlying25
  obtain ⟨hU, hno, hyes⟩ := hF
  have HN := Aa.mk hn
  have HDW := Aa.mk hDw
  have HK0 := Aa.mk (show KpD D w00 w from ⟨hW.size, fun k hk => hW.block k (hDw k hk)⟩)
  have HD := Aa.mk hD
  have HC0 := Aa.mk hc
  have HU := Aa.mk hU
  have HNO := Aa.mk hno
  have HYES := Aa.mk hyes
  have HJ := Aa.mk hJ
  have HJX := Aa.mk hJx
  have H0 := Aa.mk h0
  have HY := Aa.mk hY
  have HWS := Aa.mk hW.size
  obtain ⟨hgp, hcp⟩ := hD w HK0.out
  have HCP := Aa.mk hcp
  have hq1 : w.cell? ⟨gp, 0, none⟩ = some (.slice A0 ps.length c0) := (Ag hgp 0).trans rfl
  have hq2 : w.cell? ⟨gp, 1, none⟩ = some (.int .i64 a) := (Ag hgp 1).trans rfl
  have hq3 : w.cell? ⟨gf, 0, none⟩ = some (.int .i64 fr) := (Ag (Ce hgf hW) 0).trans rfl
  clear hn hDw hD hc hU hno hyes hJ hJx h0 hY hgf hW hgp hcp
  refine callsIn_of_wp_marks Tryz.func62 rfl trivial ?_
  simp only [Tryz.ntmps62, List.size_toArray, List.length_cons, List.length_nil, Nat.reduceAdd, Nat.reduceSub, Array.replicate_succ, Array.replicate_zero, List.push_toArray, List.append_toArray, List.nil_append, List.cons_append]
  refine wpIn_wide.2 (wp_scope_straight ?_)
  go_wp2_with (first | (go_at_call 29; refine (Bi.calls k A0 c0 ps a (max fr 0) r1 ok _ HCP.out HC0.out HU.out).mono ?_; rintro e w1 ⟨v1, rfl, ho, hb⟩; obtain ⟨Ab, cb, eb⟩ := Kd.R_slice ho; subst eb; have HO := Aa.mk ho; have HB := Aa.mk hb; clear ho hb))
  refine wp_label ?_
  have hb5 : Below w1.heap.size w1 (w1.alloc (.cells #[.slice Ab r1.length cb] 25)) := (Below.refl _ w1).alloc (Nat.le_refl _) _
  have hn5 := Fl w1 (.cells #[.slice Ab r1.length cb] 25)
  have HN5 := Aa.mk hn5
  have HB5 := Aa.mk hb5
  clear hn5 hb5 hq1 hq2 hq3
  cases ok with
  | false =>
    have hN := HNO.out rfl
    subst hN
    go_wp2
    generalize hW2 : (w1.alloc (Obj.cells #[Value.slice Ab r1.length cb] 25)) = w2 at HB5 HN5 ⊢
    refine wp_loop (fun a' W => a' = { tmps := _, defers := [] } ∧ W = w2) (fun _ _ => 0) ⟨rfl, rfl⟩ ?_
    rintro _ _ ⟨rfl, rfl⟩
    go_wp2
    refine Io ?_
    refine ⟨_, results_none rfl _ _ _, ⟨_, rfl⟩, fun _ => False, fun _ h => h.elim, .inl ⟨[], rfl, ?_⟩⟩
    exact HJ.out _ _ _ _ _ H0.out (fun _ h => h.elim) (Dt.of_below (HB.out.trans (HB5.out.mono HB.out.size))) (fun _ h => h.elim)
  | true =>
    obtain ⟨hN1, hr1, hk0, hp1, hp2, hL, hS⟩ := HYES.out rfl
    subst hr1
    obtain ⟨hs0, _, _⟩ := hS 0 (by omega)
    obtain ⟨g, cap, eg, hg1, hg2, _⟩ := Kd.R_form HO.out (by omega)
    injection eg with e1 e2 e3
    subst e1
    subst e3
    rw [hs0] at HO HN5 HB5 ⊢
    have HK00 := Aa.mk hk0
    have HP1 := Aa.mk hp1
    have HP2 := Aa.mk hp2
    have HL := Aa.mk hL
    have HS := Aa.mk hS
    have HN1 := Aa.mk hN1
    have hLies : Lies D J w00 w g w1.heap.size ps.length cb (sq 0) [] [] (fun _ => False) w (w1.alloc (.cells #[.slice (some ⟨g, 0, none⟩) ps.length cb] 25)) := {
      row := Kd.R_alloc (Kd.R_mono (Kd.R_eqBlock HO.out) (fun k hk => hk)) _
      box := HN5.out
      told := H0.out
      grown := Dt.of_below (HB.out.trans (HB5.out.mono HB.out.size))
      own := fun _ h => h.elim
      fresh := fun k hk => by
        rcases hk with rfl | rfl | hk
        · exact .inr hg1
        · exact .inr HB.out.size
        · cases hk
      kept := KpD.below HK0.out (fun k hk => by have := HDW.out k hk; have := HWS.out; omega) (HB.out.trans (HB5.out.mono HB.out.size))
      wp := Nat.le_refl _
      low := ⟨hg1, HB.out.size⟩
      nodup := .nil
      marks := by simp }
    generalize hg5 : w1.heap.size = g5 at hLies ⊢
    generalize hW2 : w1.alloc (Obj.cells #[Value.slice (some ⟨g, 0, none⟩) ps.length cb] 25) = w2 at hLies ⊢
    clear hg5 hW2 HN5 HB5 HO HB H0 HCP HK0 HU HNO HYES hN1 hk0 hp1 hp2 hL hS hs0 hg1 hg2 e2
    go_wp2
    refine wp_loop (fun a' W => ∃ (j : Nat) (pre : List AX) (Ds : List Nat) (G0 : Nat → Prop) (Wp : World), a' = { tmps := TMA l₀ gf gp g5 (max fr 0 + (j : Int)) (fun i => a'.tmps.getD i undef), defers := Ds.map fun D => { target := .collected D, args := #[] } } ∧ (j < N ∧ pre.length = j) ∧ Lies D J w00 w g g5 ps.length cb (sq j) pre Ds G0 Wp W)
      (fun a' _ => leftA (max fr 0 + N) a')
      ⟨0, [], [], fun _ => False, w, by simp [TMA], ⟨HN1.out, rfl⟩, hLies⟩ ?_
    rintro a' W ⟨j, pre, Ds, G0, Wp, ha, ⟨hj, hpl⟩, hlies⟩
    generalize (fun i => a'.tmps.getD i undef) = u at ha
    subst ha
    unfold TMA
    have LI := Aa.mk hlies
    have hc5 : W.cell? ⟨g5, 0, none⟩ = some (.slice (some ⟨g, 0, none⟩) ps.length cb) := (Ag hlies.box 0).trans rfl
    obtain ⟨hsl, hsb, hst⟩ := HS.out j hj
    have hcl := cloneByte.calls (some ⟨g, 0, none⟩) cb (sq j) (sq j) W (Kd.R_reads' hlies.row).2.2 (by have := (Kd.R_reads' hlies.row).2.1; omega) (by simp only [cloneByte.f, if_pos (show (sq j).length < 8796093022208 by have := HP2.out; omega)])
    rw [hsl] at hcl
    have HCL := Aa.mk hcl
    have HSL := Aa.mk hsl
    have HSB := Aa.mk hsb
    have HST := Aa.mk hst
    have HJN := Aa.mk hj
    have HPL := Aa.mk hpl
    clear hlies hcl hsl hsb hst hj hpl hLies
    refine (wpIn_wide (n := n)).1 ?_
    gi_wp2_with (first | (refine ⟨trivial, fun _ => Nat.le_trans (by decide) HN.out, ?_⟩; gi_at_call 63; with_reducible refine (callsIn_wide.2 HCL.out).mono ?_; rintro e W1 ⟨v1, rfl, ho1, hb1⟩; obtain ⟨A1, c1, e1⟩ := Kd.R_slice ho1; subst e1; have HO1 := Aa.mk ho1; have HB1 := Aa.mk hb1; clear ho1 hb1))
    have hgl : ∀ k, Gof g g5 Ds k → w.heap.size ≤ k ∧ k < W.heap.size := fun k hk => by
      rcases hk with rfl | rfl | hk
      · exact ⟨LI.out.low.1, Kd.R_lt LI.out.row k rfl⟩
      · exact ⟨LI.out.low.2, Fx LI.out.box⟩
      · exact ⟨(LI.out.marks k hk).1, (Array.getElem?_eq_some_iff.1 (LI.out.marks k hk).2).1⟩
    have hyy := HY.out G0 (Gof g g5 Ds) pre ⟨max fr 0 + (j : Int), A1, c1, sq j⟩ Wp W1 (fun k hk => ⟨(hgl k hk).1, Nat.lt_of_lt_of_le (hgl k hk).2 HB1.out.size⟩) LI.out.own LI.out.told (LI.out.grown.step HB1.out) LI.out.fresh
      ⟨by rw [HPL.out]; exact HJN.out, by rw [HPL.out], by rw [HPL.out], Kd.R_lower (Kd.R_mono (Kd.R_bound HO1.out) (fun k hk => fun h => ?hapart)) LI.out.grown.size⟩
    case hapart => have := (hgl k h).2; have := hk.2.1; omega
    simp only [encA] at hyy
    obtain ⟨fn, tmps, assign, body, hy, hR⟩ := hyy
    have HGL := Aa.mk hgl
    clear hgl
    rw [hy]
    refine ⟨fun _ => Nat.le_trans (by decide) HN.out, hR.mono ?_⟩
    rintro e W3 (⟨rfl, hJ3, hk3, hg3, _⟩ | ⟨rfl, hJx3, hk3⟩)
    · have hsz : w.heap.size ≤ W.heap.size := Nat.le_trans LI.out.wp LI.out.grown.size
      have LI3 : Aa (Lies D J w00 w g g5 ps.length cb (sq j) (pre ++ [⟨max fr 0 + (j : Int), A1, c1, sq j⟩]) Ds (Gof g g5 Ds) W3 W3) := ⟨{
        row := Kd.R_move (Kd.R_below LI.out.row HB1.out) (fun k hk => hg3 k (.inl hk))
        box := (hg3 g5 (.inr (.inl rfl))).trans (Ce LI.out.box HB1.out)
        told := hJ3
        grown := Dt.refl _ _
        own := fun k hk => (HGL.out k hk).1
        fresh := fun k hk => .inl hk
        kept := (KpD.below LI.out.kept (fun k hk => by have := HDW.out k hk; have := HWS.out; omega) HB1.out).trans hk3
        wp := Nat.le_trans hsz (Nat.le_trans HB1.out.size hk3.1)
        low := LI.out.low
        nodup := LI.out.nodup
        marks := fun k hk => ⟨(LI.out.marks k hk).1, (hg3 k (.inr (.inr hk))).trans (Ce (LI.out.marks k hk).2 HB1.out)⟩ }⟩
      have hc53 : W3.cell? ⟨g5, 0, none⟩ = some (.slice (some ⟨g, 0, none⟩) ps.length cb) := (Ag LI3.out.box 0).trans rfl
      have hw1 : wrap64 (max fr 0 + (j : Int) + 1) = max fr 0 + (j : Int) + 1 := w64o (by have := HK00.out; omega) (by have := HK00.out; have := HJN.out; omega)
      have hw2 : wrap64 ((ps.length : Int) - 1) = (ps.length : Int) - 1 := w64o (by omega) (by have := HP2.out; omega)
      have HN7 := Aa.mk (Fl W3 (.cells #[.int .i64 ((ps.length : Int) - 1)] 3))
      have HB7 : Aa (Below W3.heap.size W3 (W3.alloc (.cells #[.int .i64 ((ps.length : Int) - 1)] 3))) := ⟨(Below.refl _ W3).alloc (Nat.le_refl _) _⟩
      clear hJ3 hk3 hg3 hR hy hsz hc5
      gi_wp2
      refine wpIn_wide.2 ?_
      have LI7 := Aa.mk (LI3.out.below (fun k hk => by have := HDW.out k hk; have := HWS.out; have := LI3.out.size; omega) HB7.out)
      have HS3 := Aa.mk LI3.out.size
      have HX := Aa.mk (show (pre ++ [(⟨max fr 0 + (j : Int), A1, c1, sq j⟩ : AX)]).length = j + 1 by have := HPL.out; simp; omega)
      generalize hg7 : W3.heap.size = g7 at HN7 ⊢
      generalize hW7 : W3.alloc (Obj.cells #[Value.int IntKind.i64 ((ps.length : Int) - 1)] 3) = W7 at HN7 LI7 ⊢
      have HG7 := Aa.mk (Nat.le_of_eq hg7)
      generalize (pre ++ [(⟨max fr 0 + (j : Int), A1, c1, sq j⟩ : AX)]) = pre' at LI7 HX
      clear hg7 hW7 LI HCL HO1 HB1 HGL HB7 LI3
      obtain ⟨res, hres⟩ : ∃ res, res = if j + 1 < N then some (sq (j + 1)) else none := ⟨_, rfl⟩
      rw [← hres] at HST
      have HRES := Aa.mk hres
      clear hres
      refine wp_loop (fun a' W => ∃ (q : Nat) (b' : List Int) (g7 : Nat) (Ds' : List Nat), a' = { tmps := TMI l₀ gf gp g5 g7 (max fr 0 + (j : Int) + 1) (fun i => a'.tmps.getD i undef), defers := Ds'.map fun D => { target := .collected D, args := #[] } } ∧ (q ≤ ps.length ∧ b'.length = ps.length ∧ ∀ v ∈ b', 0 ≤ v ∧ v ≤ 255) ∧ Oz ps L q b' = res ∧ Lies D J w00 w g g5 ps.length cb b' pre' Ds' (Gof g g5 Ds) W3 W ∧ (W.heap[g7]? = some (.cells #[.int .i64 ((q : Int) - 1)] 3 (0, 0)) ∧ W3.heap.size ≤ g7))
        (fun a' W => leftI a' W)
        ⟨ps.length, sq j, g7, Ds, by rw [hw1, hw2]; simp [TMI], ⟨Nat.le_refl _, HSL.out, HSB.out⟩, HST.out, LI7.out, HN7.out, HG7.out⟩ ?_
      rintro a'' W ⟨q, b', g7, Ds', ha, ⟨hq, hbl, hbb⟩, hst, hlies, hn7, hg7⟩
      generalize (fun i => a''.tmps.getD i undef) = u' at ha
      subst ha
      unfold TMI
      have LI := Aa.mk hlies
      have H7 := Aa.mk hn7
      have HG7 := Aa.mk hg7
      have HQ := Aa.mk hq
      have HBL := Aa.mk hbl
      have HBB := Aa.mk hbb
      have HST := Aa.mk hst
      have hc7 : W.cell? ⟨g7, 0, none⟩ = some (.int .i64 ((q : Int) - 1)) := (Ag hn7 0).trans rfl
      clear hlies hn7 hg7 hq hbl hbb hst hw1 hw2 hc53 LI7 HN7
      cases q with
      | zero =>
        have cd1 : decide (((0 : Nat) : Int) - 1 ≥ 0) = false := rfl
        have cd2 : decide ((0 : Int) ≤ ((0 : Nat) : Int) - 1) = false := rfl
        go_wp2
        gi_wp2
        refine Io ?_
        have hfin : ¬ j + 1 < N := fun h => by
          have h2 := HST.out
          rw [HRES.out, if_pos h] at h2
          exact absurd (show (none : Option (List Int)) = some _ from h2) (by simp)
        have hgl : ∀ k, Gof g g5 Ds' k → w.heap.size ≤ k := fun k hk => by
          rcases hk with rfl | rfl | hk
          · exact LI.out.low.1
          · exact LI.out.low.2
          · exact (LI.out.marks k hk).1
        refine Fu (M := Gof g g5 Ds') (X := fun W => J (Gof g g5 Ds') pre' W) ?_ ?_ Ds' _ LI.out.nodup ?_ (HJ.out _ _ _ _ _ LI.out.told LI.out.own LI.out.grown LI.out.fresh)
        · exact fun W k hx hM _ => HJ.out _ _ _ _ _ hx hgl (Dt.put hM _) (fun k h => .inl h)
        · exact fun W hx => ⟨_, results_none rfl _ _ _, ⟨_, rfl⟩, Gof g g5 Ds', hgl, .inl ⟨_, by have := HX.out; have := HJN.out; omega, hx⟩⟩
        · exact fun k hk => ⟨.inr (.inr hk), (LI.out.marks k hk).2⟩
      | succ q =>
        have e1 : ((q + 1 : Nat) : Int) - 1 = (q : Int) := by omega
        rw [e1] at hc7 H7
        have cd1 : decide ((q : Int) ≥ 0) = true := decide_eq_true (by omega)
        have cd2 : decide ((0 : Int) ≤ (q : Int)) = true := decide_eq_true (by omega)
        have hql : q < ps.length := by have := HQ.out; omega
        obtain ⟨hset, hll, hlb, hne⟩ := HL.out q hql
        obtain ⟨hgp, hcp⟩ := HD.out W LI.out.kept
        obtain ⟨ad, Ai, ci, eA, hx1, hci, hCi⟩ := Ha hcp (q : Int) (by omega) (by omega)
        subst eA
        have hrd : Co ps (q : Int) = ps.getD q [] := by simp [Co]
        rw [hrd] at hx1 hci hCi
        rw [Int.toNat_natCast] at hx1
        obtain ⟨hcb, hfb⟩ := Kd.R_celln (0 : Int) LI.out.row (q : Int) (by omega) (by omega)
        rw [Int.toNat_natCast] at hcb hfb
        have hrb : rdOf (0 : Int) b' (q : Int) = b'.getD q 0 := by simp [rdOf]
        rw [hrb] at hcb
        obtain ⟨bq, hbq⟩ : ∃ bq, bq = b'.getD q 0 := ⟨_, rfl⟩
        rw [← hbq] at hcb
        have hbr : 0 ≤ bq ∧ bq ≤ 255 := by
          rw [hbq]
          exact HBB.out _ (by rw [List.getD_eq_getElem?_getD, List.getElem?_eq_getElem (by have := HBL.out; omega)]; simp)
        have hp0 : W.cell? ⟨gp, 0, none⟩ = some (.slice (some ad) ps.length c0) := (Ag hgp 0).trans rfl
        have hp5 : W.cell? ⟨g5, 0, none⟩ = some (.slice (some ⟨g, 0, none⟩) ps.length cb) := (Ag LI.out.box 0).trans rfl
        generalize hpl_ : (ps.getD q []).length = pl at hx1 hci hCi hne
        have hw3 : wrap64 (bq + 1) = bq + 1 := w64o (by omega) (by omega)
        have hwb : wrap64 bq = bq := w64o (by omega) (by omega)
        have hwk : IntKind.i64.wrap (IntKind.i64.wrap bq + 1) = bq + 1 := by rw [Hu, Hu, hwb, hw3]
        have hcall : ∀ w', Kd.C k58 w' Ai pl (ps.getD q []) → Calls Tryz.prog 64 #[.slice Ai pl ci, .int .i64 (IntKind.i64.wrap (IntKind.i64.wrap bq + 1))] w' fun e w'' => ∃ v, e = .returned v ∧ AllV w'' v (L q) (bq + 1) ∧ Below w'.heap.size w' w'' := fun w' h => by subst hpl_; rw [hwk]; exact Sg.calls k Ai ci (ps.getD q []) (bq + 1) (L q) w' h hci hset
        have HCALL := Aa.mk hcall
        have p1 : (0 ≤ (q : Int)) = True := eq_true (by omega)
        have p2 : ((q : Int) < (ps.length : Int)) = True := eq_true (by omega)
        have p3 : (q < ps.length) = True := eq_true hql
        have HQL := Aa.mk hql
        have HBQ := Aa.mk hbq
        have HBR := Aa.mk hbr
        have HSET := Aa.mk hset
        have HLL := Aa.mk hll
        have HLB := Aa.mk hlb
        have HNE := Aa.mk hne
        have HCI := Aa.mk hci
        have HCCI := Aa.mk hCi
        have HPL_ := Aa.mk hpl_
        have HFB := Aa.mk hfb
        have HGP := Aa.mk hgp
        clear hwk hw3 hwb hcall hql hbq hbr hset hll hlb hne hci hCi hpl_ hfb hgp hcp hrb hrd e1
        go_wp2
        go_region_held3 (fun w' => w'.cell? ⟨gp, 0, none⟩ = some (.slice (some ad) ps.length c0) ∧ w'.cell? ⟨g7, 0, none⟩ = some (.int .i64 (q : Int)) ∧ w'.cell? (ad.add q) = some (.slice Ai pl ci) ∧ w'.cell? ⟨g5, 0, none⟩ = some (.slice (some ⟨g, 0, none⟩) ps.length cb) ∧ w'.cell? ⟨g, q, none⟩ = some (.int .u8 bq))
          (first | go_keep | (go_split_ands; exact ⟨Mu HB8.out (by assumption), Mu HB8.out (by assumption), Mu HB8.out (by assumption), Mu HB8.out (by assumption), Mu HB8.out (by assumption)⟩))
          (first | (go_at_call 64; refine (HCALL.out _ (Kd.C_drew HCCI.out)).mono ?_; rintro e w8 ⟨v8, rfl, ha8, hb8⟩; have HA8 := Aa.mk ha8; have HB8 := Aa.mk hb8; clear ha8 hb8))
        generalize (IntKind.i64.wrap (IntKind.i64.wrap bq + 1)) = z43
        generalize (IntKind.i64.wrap bq) = z42
        go_wp2
        obtain ⟨lb, ev, hseq⟩ := AllV.stops (w0 := w8) (n - 1) (by have := HN.out; omega) (fun _ => False) HA8.out (fun k hk => hk.elim) (Below.refl _ _) HLL.out HLB.out
        subst ev
        have hDW2 : ∀ k, D k → k < w.heap.size := fun k hk => by have := HDW.out k hk; have := HWS.out; omega
        have HD2 := Aa.mk hDW2
        have hb89 : Below W.heap.size W w8 := Dz (Bv (Below.refl W.heap.size W)) HB8.out
        have LI8 := Aa.mk (LI.out.below (fun k hk => by have := hDW2 k hk; have := LI.out.size; omega) hb89)
        have H78 := Aa.mk (Ce H7.out hb89)
        have HDS := Aa.mk (show ∀ k ∈ Ds', k < w8.heap.size from fun k hk => (Array.getElem?_eq_some_iff.1 (LI8.out.marks k hk).2).1)
        have HW8 := Aa.mk (show W3.heap.size ≤ w8.heap.size from LI8.out.grown.size)
        clear hDW2 hb89 hc7 hx1 hcb hp0 hp5
        refine (wpIn_wide (n := n)).1 ?_
        refine wpIn_rangeFunc_ownG rfl (by have := HN.out; omega) (gf := 91) (lb := lb) rfl trivial (enters_of Tryz.func91 (by kernel_rfl) rfl) hseq KpS.trans KpS.put (Below.refl _ _) (fun _ => rfl)
          (fun pre W => pre = [] ∧ Lies D J w00 w g g5 ps.length cb b' pre' Ds' (Gof g g5 Ds) W3 W ∧ W.heap[g7]? = some (.cells #[.int .i64 (q : Int)] 3 (0, 0)))
          (fun c pre W => c = .exit 1 ∧ ∃ x, pre = [x] ∧ Lies D J w00 w g g5 ps.length cb (b'.set q (x % 256)) pre' Ds' (Gof g g5 Ds) W3 W)
          ?hI ?hIx ⟨rfl, LI8.out, H78.out⟩ (fun x => { tmps := #[.func (.yield l₀) #[] #[], .pointer (some ⟨gf, 0, none⟩), .pointer (some ⟨gp, 0, none⟩), u' 3, .int .i64 (max fr 0 + (j : Int) + 1), .pointer (some ⟨g5, 0, none⟩), .bool true, .pointer (some ⟨g7, 0, none⟩), .int .i64 x, u' 9, u' 10, u' 11, u' 12, u' 13, u' 14, u' 15, u' 16, u' 17, u' 18, u' 19, u' 20, u' 21, u' 22, u' 23, u' 24, u' 25, u' 26, u' 27, u' 28, .int .i64 (q : Int), .bool true, u' 31, u' 32, .pointer (some ⟨gp, 0, none⟩), .slice (some ad) ps.length c0, .int .i64 (q : Int), .pointer (some (ad.add q)), .slice Ai pl ci, .slice (some ⟨g, 0, none⟩) ps.length cb, .int .i64 (q : Int), .pointer (some ⟨g, q, none⟩), .int .u8 bq, .int .i64 z42, .int .i64 z43, .func (.func 91) #[] lb, .int .i64 x, u' 46, u' 47, u' 48, u' 49, u' 50, u' 51, u' 52, u' 53, u' 54, u' 55, u' 56, u' 57, u' 58, u' 59, u' 60, u' 61, u' 62, u' 63], defers := [] }) ?assign ?body ?done ?stop
        case hI =>
          rintro pre A B row ⟨h1, h2, h3⟩ hg hr
          exact ⟨h1, h2.byGrown HD2.out HW8.out HDS.out hg hr, (grownBy_keeps_cells hg (fun r e => (hr r e).2) h3 rfl).trans h3⟩
        case hIx =>
          rintro c pre A B row ⟨h0, x, h1, h2⟩ hg hr
          exact ⟨h0, x, h1, h2.byGrown HD2.out HW8.out HDS.out hg hr⟩
        case assign =>
          intro l_ x W K hK
          gi_wp2
          exact hK
        case body =>
          rintro l_ pre x W9 ⟨rfl, hl9, h79⟩ hpl9
          have LI9 := Aa.mk hl9
          have H79 := Aa.mk h79
          have b5 : W9.cell? ⟨g5, 0, none⟩ = some (.slice (some ⟨g, 0, none⟩) ps.length cb) := (Ag hl9.box 0).trans rfl
          have b7 : W9.cell? ⟨g7, 0, none⟩ = some (.int .i64 (q : Int)) := (Ag h79 0).trans rfl
          obtain ⟨b8, b9⟩ := Kd.R_celln (0 : Int) hl9.row (q : Int) (by omega) (by have := HQL.out; omega)
          rw [Int.toNat_natCast] at b8 b9
          clear hl9 h79 hpl9
          gi_wp2
          exact ⟨(KeepsOthers.setCell _ _ _).from _, rfl, x, rfl, LI9.out.set HD2.out q (x % 256)⟩
        case done =>
          rintro M xs W9 hM hS ⟨rfl, hl9, h79⟩ hMd
          have LI9 := Aa.mk (hl9.mark hMd (Nat.le_trans HW8.out hM) (fun k hk => Nat.lt_of_lt_of_le (HDS.out k hk) hM))
          have H79 := Aa.mk h79
          have hst9 : Oz ps L q (b'.set q ((Ch (ps.getD q []) 0).f0 % 256)) = res := by
            have h2 := HST.out
            unfold Oz at h2
            rw [← HBQ.out, ← hS] at h2
            exact h2
          obtain ⟨hgp9, hcp9⟩ := HD.out W9 LI9.out.kept
          obtain ⟨ad9, Ai9, ci9, eA9, hx9, hci9, hCi9⟩ := Ha hcp9 (q : Int) (by omega) (by have := HQL.out; omega)
          injection eA9 with eA9
          subst eA9
          have hrd9 : Co ps (q : Int) = ps.getD q [] := by simp [Co]
          rw [hrd9, HPL_.out] at hx9 hci9
          rw [hrd9] at hCi9
          rw [Int.toNat_natCast] at hx9
          obtain ⟨adi, eAi, hlo9, _⟩ := Eo hCi9 0 (Int.le_refl _) (by rw [HPL_.out]; have := HNE.out; omega)
          subst eAi
          rw [show adi.add ((0 : Int).toNat * 2) = adi from rfl] at hlo9
          generalize hlo : (Ch (ps.getD q []) 0).f0 = lo at hst9 hlo9
          have HST9 := Aa.mk hst9
          have b5 : W9.cell? ⟨g5, 0, none⟩ = some (.slice (some ⟨g, 0, none⟩) ps.length cb) := (Ag hl9.box 0).trans rfl
          have b7 : W9.cell? ⟨g7, 0, none⟩ = some (.int .i64 (q : Int)) := (Ag h79 0).trans rfl
          have bp : W9.cell? ⟨gp, 0, none⟩ = some (.slice (some ad) ps.length c0) := (Ag hgp9 0).trans rfl
          obtain ⟨b8, b9⟩ := Kd.R_celln (0 : Int) hl9.row (q : Int) (by omega) (by have := HQL.out; omega)
          rw [Int.toNat_natCast] at b8 b9
          have q1 : (0 < pl) = True := eq_true (by have := HNE.out; omega)
          have q2 : ((0 : Int) < (pl : Int)) = True := eq_true (by have := HNE.out; omega)
          clear hl9 h79 hst9 hgp9 hcp9 hci9 hCi9 hrd9 hS hM hMd
          gi_wp2
          have hss : ∀ (y : Int) (w' : World), w'.heap = (W9.setCell ⟨g, q, none⟩ (.int .u8 y)).heap → w'.cell? ⟨gp, 0, none⟩ = some (.slice (some ad) ps.length c0) ∧ w'.cell? ⟨g7, 0, none⟩ = some (.int .i64 (q : Int)) ∧ w'.cell? (ad.add q) = some (.slice (some adi) pl ci9) ∧ w'.cell? ⟨g5, 0, none⟩ = some (.slice (some ⟨g, 0, none⟩) ps.length cb) ∧ w'.cell? adi = some (.int .i64 lo) := fun y w' he_ => by
            have hce : ∀ p : Addr, w'.cell? p = (W9.setCell ⟨g, q, none⟩ (.int .u8 y)).cell? p := fun p => Hf (by rw [he_])
            simp only [hce]
            have hgw : w.heap.size ≤ g := LI9.out.low.1
            have hLS := LI9.out.set HD2.out q y
            obtain ⟨hgpS, hcpS⟩ := HD.out _ hLS.kept
            obtain ⟨adS, AiS, ciS, eAS, hxS, _, hCS⟩ := Ha hcpS (q : Int) (by omega) (by have := HQL.out; omega)
            injection eAS with eAS
            subst eAS
            obtain ⟨_, hcp0⟩ := HD.out w00 (KpD.refl D w00)
            obtain ⟨ad0, Ai0, ci0, eA0, hx0, _, _⟩ := Ha hcp0 (q : Int) (by omega) (by have := HQL.out; omega)
            injection eA0 with eA0
            subst eA0
            rw [Int.toNat_natCast] at hxS hx0
            have hlt := World.block_lt_of_cell? w00 _ (by rw [hx0])
            have hne : (ad.add q).block ≠ g := fun e => by rw [e] at hlt; have := HWS.out; omega
            have hx9' := (Lu (p := ⟨g, q, none⟩) hne (.int .u8 y)).trans hx9
            rw [hxS] at hx9'
            rw [show Co ps (q : Int) = ps.getD q [] by simp [Co]] at hCS
            injection hx9' with hx9'
            injection hx9' with e1_ e2_ e3_
            rw [e1_] at hCS
            obtain ⟨adT, eT, hloT, _⟩ := Eo hCS 0 (Int.le_refl _) (by rw [HPL_.out]; have := HNE.out; omega)
            injection eT with eT
            subst eT
            rw [hlo] at hloT
            have h7S : (W9.setCell ⟨g, q, none⟩ (.int .u8 y)).heap[g7]? = some (.cells #[.int .i64 (q : Int)] 3 (0, 0)) := (Below.heap_setCell W9 ⟨g, q, none⟩ _ g7 (fun e => by
              obtain ⟨cells, hg⟩ := Kd.R_typed LI9.out.row g rfl
              have h := H79.out
              have e : g7 = g := e
              rw [e, hg] at h
              injection h with h
              injection h with _ h
              cases h)).trans H79.out
            exact ⟨(Ag hgpS 0).trans rfl, (Ag h7S 0).trans rfl, (Lu (p := ⟨g, q, none⟩) hne (.int .u8 y)).trans hx9, (Ag hLS.box 0).trans rfl, hloT⟩
          have HSS := Aa.mk hss
          clear hss
          have ht_ : (fun w' => w'.cell? ⟨gp, 0, none⟩ = some (.slice (some ad) ps.length c0) ∧ w'.cell? ⟨g7, 0, none⟩ = some (.int .i64 (q : Int)) ∧ w'.cell? (ad.add q) = some (.slice (some adi) pl ci9) ∧ w'.cell? ⟨g5, 0, none⟩ = some (.slice (some ⟨g, 0, none⟩) ps.length cb) ∧ w'.cell? adi = some (.int .i64 lo)) ((W9.setCell ⟨g, q, none⟩ (.int .u8 (IntKind.u8.wrap lo))).drew) := by
            dsimp only
            exact HSS.out (IntKind.u8.wrap lo) _ rfl
          have ht2_ : (fun w' => w'.cell? ⟨gp, 0, none⟩ = some (.slice (some ad) ps.length c0) ∧ w'.cell? ⟨g7, 0, none⟩ = some (.int .i64 (q : Int)) ∧ w'.cell? (ad.add q) = some (.slice (some adi) pl ci9) ∧ w'.cell? ⟨g5, 0, none⟩ = some (.slice (some ⟨g, 0, none⟩) ps.length cb) ∧ w'.cell? adi = some (.int .i64 lo)) ((W9.drew.setCell ⟨g, q, none⟩ (.int .u8 (IntKind.u8.wrap lo)))) := by
            dsimp only
            exact HSS.out (IntKind.u8.wrap lo) _ rfl
          go_region_held3 (fun w' => w'.cell? ⟨gp, 0, none⟩ = some (.slice (some ad) ps.length c0) ∧ w'.cell? ⟨g7, 0, none⟩ = some (.int .i64 (q : Int)) ∧ w'.cell? (ad.add q) = some (.slice (some adi) pl ci9) ∧ w'.cell? ⟨g5, 0, none⟩ = some (.slice (some ⟨g, 0, none⟩) ps.length cb) ∧ w'.cell? adi = some (.int .i64 lo))
            (first | go_keep | exact HSS.out (IntKind.u8.wrap lo) _ rfl)
            (fail)
          clear ht_ ht2_
          have hwq : wrap64 ((q : Int) - 1) = (q : Int) - 1 := w64o (by omega) (by have := HQL.out; have := HP2.out; omega)
          go_wp2
          have LIS := LI9.out.set HD2.out q (lo % 256)
          have hsz : (W9.setCell ⟨g, q, none⟩ (.int .u8 (lo % 256))).heap.size = W9.heap.size := by simp [World.setCell]
          have hn9 := Ay (Fl (W9.setCell ⟨g, q, none⟩ (.int .u8 (lo % 256))) (.cells #[.int .i64 ((q : Int) - 1)] 3))
          rw [hsz] at hn9
          have hb9 : Below (W9.setCell ⟨g, q, none⟩ (.int .u8 (lo % 256))).heap.size (W9.setCell ⟨g, q, none⟩ (.int .u8 (lo % 256))) ((W9.setCell ⟨g, q, none⟩ (.int .u8 (lo % 256))).alloc (.cells #[.int .i64 ((q : Int) - 1)] 3)).drew := Bv ((Below.refl _ _).alloc (Nat.le_refl _) _)
          refine ⟨⟨q, b'.set q (lo % 256), W9.heap.size, M :: Ds', rfl, ⟨by have := HQL.out; omega, by rw [List.length_set]; exact HBL.out, fun v hv => ?_⟩, HST9.out, LIS.below (fun k hk => by have := HD2.out k hk; have := LIS.size; omega) hb9, hn9, ?_⟩, ?_⟩
          · rcases List.mem_or_eq_of_mem_set hv with hv | rfl
            · exact HBB.out v hv
            · omega
          · have := LI9.out.grown.size; exact this
          · show (match World.cell? _ ⟨W9.heap.size, 0, none⟩ with | some (Value.int _ i) => (i + 1).toNat | _ => 0) < (match W.cell? ⟨g7, 0, none⟩ with | some (Value.int _ i) => (i + 1).toNat | _ => 0)
            rw [show World.cell? _ ⟨W9.heap.size, 0, none⟩ = some (.int .i64 ((q : Int) - 1)) from (Ag hn9 0).trans rfl, show W.cell? ⟨g7, 0, none⟩ = some (.int .i64 (q : Int)) from (Ag H7.out 0).trans rfl]
            show ((q : Int) - 1 + 1).toNat < ((q : Int) + 1).toNat
            omega
        case stop =>
          rintro M c pre W9 hM hSp ⟨rfl, x, rfl, hl9⟩ hMd
          have LI9 := Aa.mk (hl9.mark hMd (Nat.le_trans HW8.out hM) (fun k hk => Nat.lt_of_lt_of_le (HDS.out k hk) hM))
          obtain ⟨tl, htl⟩ := hSp
          have hst9 : (some (b'.set q (x % 256)) : Option (List Int)) = if j + 1 < N then some (sq (j + 1)) else none := by
            have h2 := HST.out
            unfold Oz at h2
            rw [← HBQ.out, ← htl, HRES.out] at h2
            exact h2
          have hj1 : j + 1 < N := by
            by_cases c : j + 1 < N
            · exact c
            · rw [if_neg c] at hst9; cases hst9
          rw [if_pos hj1] at hst9
          injection hst9 with hst9
          rw [hst9] at LI9
          have HJ1 := Aa.mk hj1
          clear hl9 htl hst9 hM hMd hj1
          gi_wp2
          refine ⟨⟨j + 1, pre', M :: Ds', Gof g g5 Ds, W3, ?_, ⟨HJ1.out, HX.out⟩, LI9.out⟩, ?_⟩
          · rw [show max fr 0 + ((j + 1 : Nat) : Int) = max fr 0 + (j : Int) + 1 by omega]; rfl
          · have := HJN.out
            show (max fr 0 + (N : Int) - (max fr 0 + (j : Int) + 1)).toNat < (max fr 0 + (N : Int) - (max fr 0 + (j : Int))).toNat
            omega
    · have HX3 := Aa.mk hJx3
      have HK3 := Aa.mk hk3
      clear hJx3 hk3 hR hy
      gi_wp2
      rw [Exit.noGoto_ret]
      refine Fu (M := Gof g g5 Ds) (X := fun W => Jx (Gof g g5 Ds) (pre ++ [⟨max fr 0 + (j : Int), A1, c1, sq j⟩]) W) ?_ ?_ Ds _ LI.out.nodup ?_ HX3.out
      · exact fun W k hx hM _ => HJX.out _ _ _ _ _ hx (fun k hk => (HGL.out k hk).1) (Dt.put hM _) (fun k h => .inl h)
      · exact fun W hx => ⟨_, results_none rfl _ _ _, ⟨_, rfl⟩, Gof g g5 Ds, fun k hk => (HGL.out k hk).1, .inr ⟨_, ⟨by simp, by have := HPL.out; have := HJN.out; simp; omega⟩, hx⟩⟩
      · exact fun k hk => ⟨.inr (.inr hk), HK3.out.same k _ (LI.out.marks k hk).1 (Ce (LI.out.marks k hk).2 HB1.out) rfl⟩
end Go.Proofs.I
end
section
namespace Go.Proofs.I
open Go.RowKit Go.Shelf Go.Proofs.Zw.PrintWords Go.Proofs.Zw.PrintLast Go.Proofs.Zw.PrintMore
set_option linter.unusedVariables false
set_option linter.unusedSimpArgs false
theorem C_one {W : World} {g : Nat} {A0 : Option Addr} {c0 : Nat} {l : List (List S58)} {a : Int} (h : W.heap[g]? = some (.cells #[.slice A0 l.length c0, .int .i64 a] 44 (0, 0))) (hC : Kd.C (Kd.slice 58 k58) W A0 l.length l) (hc : l.length ≤ c0) : Kd.C k44 W (some ⟨g, 0, none⟩) 1 [⟨l, a⟩] :=
  ⟨rfl, by decide, fun _ => ⟨_, rfl, fun j p hj => ⟨[.slice A0 l.length c0, .int .i64 a], by
    match j, hj with
    | 0, hj =>
      have e : p = ⟨l, a⟩ := by simpa using hj.symm
      subst e
      refine ⟨rfl, k44_mk W ⟨l, a⟩ hc hC, fun i u hu => ?_⟩
      match i, hu with
      | 0, hu =>
        have e : u = .slice A0 l.length c0 := by simpa using hu.symm
        rw [e]
        exact (Ag h 0).trans rfl
      | 1, hu =>
        have e : u = .int .i64 a := by simpa using hu.symm
        rw [e]
        exact (Ag h 1).trans rfl⟩⟩⟩
theorem Ml (v : Value) (w : World) : (Instr.field 24 (.agg #[v]) 0).run Tryz.prog w = .ok v w := by
  unfold Instr.field
  simp [run_underlying Tryz.underlying24, part, isAgg, run_underlying Tryz.underlying22, asAgg, go_sem]
set_option maxHeartbeats 4000000 in
set_option maxRecDepth 100000 in
theorem Pa.calls (k : Nat) (A0_0 : Option Addr) (c0_0 : Nat) (l0_0 : List (List S58)) (a0_1 fr : Int) (l' : List (List S58)) (f' : Int) (w : World) (hC : Kd.C (Kd.slice 58 k58) w A0_0 l0_0.length l0_0) (hc : l0_0.length ≤ c0_0) (h : Br.f k [⟨l0_0, a0_1⟩] = some [⟨l', f'⟩]) :
    Calls Tryz.prog 41 #[.agg #[.slice A0_0 l0_0.length c0_0, .int .i64 a0_1], .int .i64 fr] w fun e w' => ∃ gf gp A c, e = .returned (.func (.func 62) #[] #[.pointer (some ⟨gf, 0, none⟩), .pointer (some ⟨gp, 0, none⟩)]) ∧ w'.heap[gf]? = some (.cells #[.int .i64 fr] 3 (0, 0)) ∧ l'.length ≤ c ∧
      (∀ W', KpD (fun k => w.heap.size ≤ k ∧ k < w'.heap.size) w' W' → W'.heap[gp]? = some (.cells #[.slice A l'.length c, .int .i64 f'] 44 (0, 0)) ∧ Kd.C (Kd.slice 58 k58) W' A l'.length l') ∧ Below w.heap.size w w' := by
  have hu44 := Tryz.underlying44
  have hu22 := Tryz.underlying22
  have hu24 := Tryz.underlying24
  have hf69 := Ml
  have HC := Aa.mk hC
  have HCC := Aa.mk hc
  have HH := Aa.mk h
  clear hC hc h
  have b1 : Below w.heap.size w (w.alloc (.cells #[.slice A0_0 l0_0.length c0_0, .int .i64 a0_1] 44)) := (Below.refl _ w).alloc (Nat.le_refl _) _
  have b2 := (b1.alloc (Nat.le_of_lt (by simp)) (.cells #[.int .i64 fr] 3))
  have b3 := b2.alloc (by simp; omega) (.cells #[.slice A0_0 l0_0.length c0_0, .int .i64 a0_1] 44)
  have hn := Fl ((w.alloc (.cells #[.slice A0_0 l0_0.length c0_0, .int .i64 a0_1] 44)).alloc (.cells #[.int .i64 fr] 3)) (.cells #[.slice A0_0 l0_0.length c0_0, .int .i64 a0_1] 44)
  rw [World.size_alloc, World.size_alloc] at hn
  have HS := Aa.mk (Br.calls k _ 1 [⟨l0_0, a0_1⟩] _ _ (C_one hn (Kd.C_below HC.out b3) HCC.out) (Nat.le_refl _) HH.out)
  have B3 := Aa.mk b3
  clear b1 b2 b3 hn
  go_enter Tryz.func41, Tryz.ntmps41
  go_wp2_with (first | (go_at_call 58; go_loud (refine HS.out.mono ?_); rintro e w1 ⟨v, rfl, ho, hb⟩; obtain ⟨Ao, co, eo⟩ := Kd.R_slice ho; subst eo; have HO := Aa.mk (Kd.R_bound ho); have hr := Kd.R_reads' ho; obtain ⟨ad, A', c', eAd, hx0, hx1, hc', hC'⟩ := Cz hr.2.2 0 (Int.le_refl _) (by simp); subst eAd; simp only [Int.toNat_zero, Nat.zero_mul, show (Ad [(⟨l', f'⟩ : S44)] 0) = ⟨l', f'⟩ from rfl] at hx0 hx1 hc' hC'; rw [show ad.add 0 = ad from rfl] at hx0 hx1; have HX0 := Aa.mk hx0; have HC1 := Aa.mk hC'; have HCC1 := Aa.mk hc'; have HB := Aa.mk hb; have HBK := Aa.mk (Ce (Be (Be (Fl w (.cells #[.slice A0_0 l0_0.length c0_0, .int .i64 a0_1] 44)) (.cells #[.int .i64 fr] 3)) (.cells #[.slice A0_0 l0_0.length c0_0, .int .i64 a0_1] 44)) hb); have HBF := Aa.mk (Ce (Be (Ir w (.cells #[.slice A0_0 l0_0.length c0_0, .int .i64 a0_1] 44) (.cells #[.int .i64 fr] 3)) (.cells #[.slice A0_0 l0_0.length c0_0, .int .i64 a0_1] 44)) hb); have hcz0 : w1.cell? ⟨w.heap.size, 0, none⟩ = some (.slice A0_0 l0_0.length c0_0) := (Ag HBK.out 0).trans rfl; have hcz1 : w1.cell? ⟨w.heap.size, 1, none⟩ = some (.int .i64 a0_1) := (Ag HBK.out 1).trans rfl; have hfz0 := Ac HBK.out 0; have hfz1 := Ac HBK.out 1; clear hr ho hb hc' hC' HS))
  go_ret
  have q1 := Ca HBK.out 0 (.slice A' l'.length c') rfl
  have q2 := Ca q1 1 (.int .i64 f') rfl
  have hb := B3.out.trans (HB.out.mono (by simp; omega))
  have far : ∀ {X : World} (j : Nat) (v : Value), Below w.heap.size w X → Below w.heap.size w (X.setCell ⟨w.heap.size, j, none⟩ v) := fun j v h => h.setCell (p := ⟨w.heap.size, j, none⟩) (Nat.le_refl _) v
  have hok : ∀ k, w.heap.size + 1 + 1 + 1 ≤ k → k ≠ w.heap.size := fun k hk => by omega
  have ho2 := Kd.R_bound (Kd.R_far (p := ⟨w.heap.size, 1, none⟩) (Kd.R_far (p := ⟨w.heap.size, 0, none⟩) HO.out (fun k hk => by have := hk.2.1; simp at this ⊢; omega) (.slice A' l'.length c')) (fun k hk => by have := hk.2.1; simp at this ⊢; omega) (.int .i64 f'))
  have hsz : ((w1.setCell ⟨w.heap.size, 0, none⟩ (.slice A' l'.length c')).setCell ⟨w.heap.size, 1, none⟩ (.int .i64 f')).heap.size = w1.heap.size := by simp [World.setCell]
  have hbf : ((w1.setCell ⟨w.heap.size, 0, none⟩ (.slice A' l'.length c')).setCell ⟨w.heap.size, 1, none⟩ (.int .i64 f')).heap[w.heap.size + 1]? = some (.cells #[.int .i64 fr] 3 (0, 0)) := (Below.heap_setCell _ ⟨w.heap.size, 1, none⟩ _ _ (by simp)).trans ((Below.heap_setCell _ ⟨w.heap.size, 0, none⟩ _ _ (by simp)).trans HBF.out)
  refine ⟨w.heap.size + 1, w.heap.size, A', c', rfl, hbf, HCC1.out, fun W' hk => ?_, far _ _ (far _ _ hb)⟩
  have hgp := (hk.2 w.heap.size ⟨Nat.le_refl _, Fx q2⟩).trans q2
  refine ⟨hgp, ?_⟩
  have ho3 := Kd.R_move ho2 (w1 := W') (fun k hk3 => hk.2 k ⟨by have := hk3.2.1; simp at this; omega, hk3.2.2.1⟩)
  obtain ⟨ad2, A2, c2, eAd, hx0, _, _, hC2⟩ := Cz (Kd.R_reads' ho3).2.2 0 (Int.le_refl _) (by simp)
  injection eAd with eAd
  subst eAd
  have hne : w.heap.size + 1 ≤ ad.block ∧ ad.block < w1.heap.size := by
    have := HO.out.1 ad.block rfl
    have h1 := this.2.1
    simp at h1
    exact ⟨by omega, this.2.2.1⟩
  have hx := HX0.out
  rw [show ad.add ((0 : Int).toNat * 2) = ad from rfl] at hx0
  have hkb := hk.2 ad.block ⟨by omega, by rw [hsz]; exact hne.2⟩
  rw [Hf (p := ad) hkb, Lu (p := ⟨w.heap.size, 1, none⟩) (by show ad.block ≠ w.heap.size; omega), Lu (p := ⟨w.heap.size, 0, none⟩) (by show ad.block ≠ w.heap.size; omega)] at hx0
  rw [show (Ad [(⟨l', f'⟩ : S44)] 0) = ⟨l', f'⟩ from rfl] at hx0 hC2
  rw [hx] at hx0
  injection hx0 with hx0
  injection hx0 with e1 e2 e3
  subst e1
  exact hC2
theorem Ua (n : Nat) (hn : 2 ≤ n) {k gp gf : Nat} {A : Option Addr} {c : Nat} {l : List (List S58)} {a fr : Int} {r1 : List Int} {ok : Bool} {N : Nat} {sq : Nat → List Int} {L : Nat → List S95} (hF : AllF k l a fr r1 ok N sq L) {D : Nat → Prop} {w0 : World} (hDw : ∀ k, D k → k < w0.heap.size)
    (hgf : w0.heap[gf]? = some (.cells #[.int .i64 fr] 3 (0, 0))) (hc : l.length ≤ c) (hD : ∀ W', KpD D w0 W' → W'.heap[gp]? = some (.cells #[.slice A l.length c, .int .i64 a] 44 (0, 0)) ∧ Kd.C (Kd.slice 58 k58) W' A l.length l) :
    SeqH Fence.wide n Tryz.prog 62 #[.pointer (some ⟨gf, 0, none⟩), .pointer (some ⟨gp, 0, none⟩)] encA (RdA (max fr 0) sq N) (KpD D) (fun xs => xs.length = N) (fun pre => 1 ≤ pre.length ∧ pre.length ≤ N) w0 :=
  fun l₀ J Jx W hW hJ hJx h0 hY => Ve n l₀ hn k gp gf A c l a fr r1 ok N sq L D w0 W hW hDw hgf hD hc hF J Jx hJ hJx h0 hY
end Go.Proofs.I
end
section
namespace Go.Proofs.I
open Go.RowKit Go.Shelf Go.Proofs.Zw.PrintWords Go.Proofs.Zw.PrintLast Go.Proofs.Zw.PrintMore
set_option linter.unusedVariables false
set_option linter.unusedSimpArgs false
def CodF (k : Nat) (fr : Int) : List S44 → List (Int × List Int) → Prop
  | [], all => all = []
  | p :: t, all => ∃ cnt, Fk.f k p.f0 p.f1 = some cnt ∧ (0 ≤ p.f1 ∧ p.f1 ≤ 1073741823) ∧
      (((p.f1 < fr ∧ cnt ≤ fr - p.f1) ∧ CodF k fr t all) ∨ (¬ (p.f1 < fr ∧ cnt ≤ fr - p.f1) ∧ ∃ (r1 : List Int) (ok : Bool) (N : Nat) (sq : Nat → List Int) (L : Nat → List S95) (rest : List (Int × List Int)),
        Br.f k [p] = some [p] ∧ AllF k p.f0 p.f1 (max fr p.f1 - p.f1) r1 ok N sq L ∧ (1 ≤ N → max fr p.f1 - p.f1 + (N : Int) ≤ 1073741824) ∧ all = ((List.range N).map fun (j : Nat) => (p.f1 + (max fr p.f1 - p.f1 + (j : Int)), sq j)) ++ rest ∧ CodF k fr t rest))
def RdC (all : List (Int × List Int)) (G : Nat → Prop) (pre : List AX) (x : AX) (Wp W : World) : Prop :=
  all[pre.length]? = some (x.k, x.b) ∧ Kd.R (Kd.int .u8) 5 W Wp.heap.size (fun k => ¬ G k) (.slice x.A x.b.length x.c) x.b
def TMC (l₀ gl gf b3 : Nat) (A : Option Addr) (m c : Nat) (i : Nat) (u : Nat → Value) : Array Value :=
  #[.func (.yield l₀) #[] #[], .pointer (some ⟨gl, 0, none⟩), .pointer (some ⟨gf, 0, none⟩), .pointer (some ⟨b3, 0, none⟩), u 4, u 5, u 6, u 7, .slice A m c, .int .i64 (m : Int), .int .i64 (i : Int), u 11, u 12, u 13, u 14, u 15, u 16, u 17, u 18, u 19, u 20, u 21, u 22, u 23, u 24, u 25, u 26, u 27, u 28, u 29, u 30, u 31, u 32, u 33, u 34, u 35, u 36, u 37, u 38, u 39, u 40, u 41, u 42, u 43, u 44, u 45, u 46]
def leftC (a : Act) : Nat := match a.tmps[10]?, a.tmps[9]? with | some (Value.int _ i), some (Value.int _ m) => (m - i).toNat | _, _ => 0
structure Gc (D : Nat → Prop) (J : (Nat → Prop) → List AX → World → Prop) (w00 w : World) (l₀ b3 : Nat) (B : Nat → Prop) (pre : List AX) (Ds : List Nat) (G0 : Nat → Prop) (Wp W : World) : Prop where
  box3 : W.heap[b3]? = some (.cells #[.func (.yield l₀) #[] #[]] 73 (0, 0))
  told : J G0 pre Wp
  grown : Dt G0 Wp W
  own : ∀ k, G0 k → w.heap.size ≤ k
  fresh : ∀ k, (k = b3 ∨ k ∈ Ds ∨ B k) → G0 k ∨ Wp.heap.size ≤ k
  kept : KpD D w00 W
  wp : w.heap.size ≤ Wp.heap.size
  low : w.heap.size ≤ b3
  nodup : Ds.Nodup
  marks : ∀ k ∈ Ds, w.heap.size ≤ k ∧ W.heap[k]? = some (.deferred (some []))
theorem Gc.size {D : Nat → Prop} {J : (Nat → Prop) → List AX → World → Prop} {w00 w : World} {l₀ b3 : Nat} {B : Nat → Prop} {pre : List AX} {Ds : List Nat} {G0 : Nat → Prop} {Wp W : World} (h : Gc D J w00 w l₀ b3 B pre Ds G0 Wp W) : w.heap.size ≤ W.heap.size := Nat.le_trans h.wp h.grown.size
theorem Gc.below {D : Nat → Prop} {J : (Nat → Prop) → List AX → World → Prop} {w00 w : World} {l₀ b3 : Nat} {B : Nat → Prop} {pre : List AX} {Ds : List Nat} {G0 : Nat → Prop} {Wp W W' : World} (h : Gc D J w00 w l₀ b3 B pre Ds G0 Wp W) (hD : ∀ k, D k → k < w.heap.size) (hb : Below W.heap.size W W') : Gc D J w00 w l₀ b3 B pre Ds G0 Wp W' where
  box3 := Ce h.box3 hb
  told := h.told
  grown := h.grown.step hb
  own := h.own
  fresh := h.fresh
  kept := KpD.below h.kept (fun k hk => by have := hD k hk; have := h.size; omega) hb
  wp := h.wp
  low := h.low
  nodup := h.nodup
  marks := fun k hk => ⟨(h.marks k hk).1, Ce (h.marks k hk).2 hb⟩
theorem Gc.drop {D : Nat → Prop} {J : (Nat → Prop) → List AX → World → Prop} {w00 w : World} {l₀ b3 : Nat} {B : Nat → Prop} {pre : List AX} {Ds : List Nat} {G0 : Nat → Prop} {Wp W : World} (h : Gc D J w00 w l₀ b3 B pre Ds G0 Wp W) : Gc D J w00 w l₀ b3 (fun _ => False) pre Ds G0 Wp W :=
  have hf : ∀ k, (k = b3 ∨ k ∈ Ds ∨ False) → G0 k ∨ Wp.heap.size ≤ k := fun k hk => by
    rcases hk with hk | hk | hk
    · exact h.fresh k (.inl hk)
    · exact h.fresh k (.inr (.inl hk))
    · exact hk.elim
  ⟨h.box3, h.told, h.grown, h.own, hf, h.kept, h.wp, h.low, h.nodup, h.marks⟩
theorem Gc.abide {D : Nat → Prop} {J : (Nat → Prop) → List AX → World → Prop} {w00 w : World} {l₀ b3 : Nat} {B B' G : Nat → Prop} {pre : List AX} {Ds : List Nat} {G0 : Nat → Prop} {Wp W W' : World} (h : Gc D J w00 w l₀ b3 B pre Ds G0 Wp W) (hD : ∀ k, D k → k < w.heap.size) (hg : Dt G W W') (hG : ∀ k, G k → B k ∧ w.heap.size ≤ k ∧ k ≠ b3 ∧ k ∉ Ds) (hB : ∀ k, B' k → B k ∨ W.heap.size ≤ k) : Gc D J w00 w l₀ b3 B' pre Ds G0 Wp W' where
  box3 := (hg.block b3 (Fx h.box3) (fun hb => (hG b3 hb).2.2.1 rfl)).trans h.box3
  told := h.told
  grown := ⟨hg.os.trans h.grown.os, hg.tape.trans h.grown.tape, hg.output.trans h.grown.output, Nat.le_trans h.grown.size hg.size, fun k hk hn => (hg.block k (Nat.lt_of_lt_of_le hk h.grown.size) (fun hb => by
    rcases h.fresh k (.inr (.inr (hG k hb).1)) with h1 | h1
    · exact hn h1
    · omega)).trans (h.grown.block k hk hn)⟩
  own := h.own
  fresh := fun k hk => by
    rcases hk with hk | hk | hk
    · exact h.fresh k (.inl hk)
    · exact h.fresh k (.inr (.inl hk))
    · rcases hB k hk with hk | hk
      · exact h.fresh k (.inr (.inr hk))
      · exact .inr (Nat.le_trans h.grown.size hk)
  kept := h.kept.trans ⟨hg.size, fun k hk => hg.block k (by have := hD k hk; have := h.size; omega) (fun hb => by have := hD k hk; have := (hG k hb).2.1; omega)⟩
  wp := h.wp
  low := h.low
  nodup := h.nodup
  marks := fun k hk => ⟨(h.marks k hk).1, (hg.block k (Array.getElem?_eq_some_iff.1 (h.marks k hk).2).1 (fun hb => (hG k hb).2.2.2 hk)).trans (h.marks k hk).2⟩
theorem Gc.put {D : Nat → Prop} {J : (Nat → Prop) → List AX → World → Prop} {w00 w : World} {l₀ b3 : Nat} {B : Nat → Prop} {pre : List AX} {Ds : List Nat} {G0 : Nat → Prop} {Wp W : World} (h : Gc D J w00 w l₀ b3 B pre Ds G0 Wp W) (hD : ∀ k, D k → k < w.heap.size) {g : Nat} (hg : B g ∧ w.heap.size ≤ g ∧ g ≠ b3 ∧ g ∉ Ds) (o : Obj) : Gc D J w00 w l₀ b3 B pre Ds G0 Wp (W.putObj g o) :=
  h.abide hD (Dt.put (G := fun k => k = g) rfl o) (fun k hk => by rw [show k = g from hk]; exact hg) (fun k hk => .inl hk)
theorem Gc.mark {D : Nat → Prop} {J : (Nat → Prop) → List AX → World → Prop} {w00 w : World} {l₀ b3 M : Nat} {B : Nat → Prop} {pre : List AX} {Ds : List Nat} {G0 : Nat → Prop} {Wp W : World} (h : Gc D J w00 w l₀ b3 B pre Ds G0 Wp W) (hM : W.heap[M]? = some (.deferred (some []))) (hB : B M) (hlo : w.heap.size ≤ M) (hDs : M ∉ Ds) : Gc D J w00 w l₀ b3 (fun _ => False) pre (M :: Ds) G0 Wp W :=
  have hf : ∀ k, (k = b3 ∨ k ∈ M :: Ds ∨ False) → G0 k ∨ Wp.heap.size ≤ k := fun k hk => by
    rcases hk with hk | hk | hk
    · exact h.fresh k (.inl hk)
    · rcases List.mem_cons.1 hk with rfl | hk
      · exact h.fresh k (.inr (.inr hB))
      · exact h.fresh k (.inr (.inl hk))
    · exact hk.elim
  have hm : ∀ k ∈ M :: Ds, w.heap.size ≤ k ∧ W.heap[k]? = some (.deferred (some [])) := fun k hk => by
    rcases List.mem_cons.1 hk with rfl | hk
    · exact ⟨hlo, hM⟩
    · exact h.marks k hk
  ⟨h.box3, h.told, h.grown, h.own, hf, h.kept, h.wp, h.low, List.nodup_cons.2 ⟨hDs, h.nodup⟩, hm⟩
def Bof (b5 wr lo : Nat) (Gi : Nat → Prop) (k : Nat) : Prop := k = b5 ∨ k = wr ∨ k = wr + 1 ∨ Gi k ∨ (lo ≤ k ∧ k < wr)
def cv (pf : Int) (x : AX) : AX := ⟨pf + x.k, x.A, x.c, x.b⟩
theorem Gc.grow {D : Nat → Prop} {J : (Nat → Prop) → List AX → World → Prop} {w00 w : World} {l₀ b3 : Nat} {B B' : Nat → Prop} {pre : List AX} {Ds : List Nat} {G0 : Nat → Prop} {Wp W : World} (h : Gc D J w00 w l₀ b3 B pre Ds G0 Wp W) (hB : ∀ k, B' k → Wp.heap.size ≤ k) : Gc D J w00 w l₀ b3 B' pre Ds G0 Wp W :=
  have hf : ∀ k, (k = b3 ∨ k ∈ Ds ∨ B' k) → G0 k ∨ Wp.heap.size ≤ k := fun k hk => by
    rcases hk with hk | hk | hk
    · exact h.fresh k (.inl hk)
    · exact h.fresh k (.inr (.inl hk))
    · exact .inr (hB k hk)
  ⟨h.box3, h.told, h.grown, h.own, hf, h.kept, h.wp, h.low, h.nodup, h.marks⟩
def TMB (l₀ gl gf b3 b5 : Nat) (x : AX) (u : Nat → Value) : Array Value :=
  #[.func (.yield l₀) #[] #[], .pointer (some ⟨gl, 0, none⟩), .pointer (some ⟨gf, 0, none⟩), .pointer (some ⟨b3, 0, none⟩), u 4, .pointer (some ⟨b5, 0, none⟩), .int .i64 x.k, .slice x.A x.b.length x.c, u 8, u 9, u 10, u 11, u 12, u 13, u 14, u 15, u 16, u 17, u 18, u 19, u 20, u 21, u 22, u 23, u 24, u 25, u 26, u 27, u 28, u 29, u 30, u 31, u 32, u 33, u 34, u 35, u 36, u 37, u 38, u 39, u 40, u 41, u 42, u 43, u 44, u 45, u 46]
end Go.Proofs.I
end
