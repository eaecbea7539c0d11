/- Words and laws of this claim, of 3 texts. -/
import Derived.Test.YtoljcfocgaonpaaKgQP0
import Derived.Test.YtoljcfocgaonpaaKgIx15
import Derived.Test.YtoljcfocgaonpaaKgIx17
import Derived.RangeFuncNested
import Derived.RangeFuncBound
import Derived.RangeFuncCalls
import Derived.RangeFuncLeaves
import Derived.Shelf.Abstract
import Derived.Shelf.RegionOpen
import Derived.WalkKit
import Derived.OwnWalkIn
import Derived.TacticsInMore
import Derived.LoopNIn
import Derived.LoopIn
import Derived.Test.YtoljcfocgaonpaaKgIx14
import Derived.Test.YtoljcfocgaonpaaKgIx25
import Derived.Test.YtoljcfocgaonpaaKgIx7
import Derived.Test.YtoljcfocgaonpaaKgIx33
section
namespace Go.Proofs.Ytoljcfocgaonpaa.I
open Go.RowKit Go.Shelf Go.Proofs.YtoljcfocgaonpaaW.PrintWords Go.Proofs.YtoljcfocgaonpaaW.PrintLast Go.Proofs.YtoljcfocgaonpaaW.PrintMore
set_option linter.unusedVariables false
set_option linter.unusedSimpArgs false
attribute [local go_sem] Oper.semAt_some
attribute [local go_sem] max2_m max_two max_three max_four
set_option maxHeartbeats 8000000 in
set_option maxRecDepth 100000 in
theorem cod1_in (n l₀ : Nat) (hn : 4 ≤ n) (k gl gf : Nat) (A : Option Addr) (c : Nat) (ss : List S47) (fr : Int) (all : List (Int × List Int)) (D : Nat → Prop)
    (w00 w : World) (hW : Below w00.heap.size w00 w) (hDw : ∀ k, D k → k < w00.heap.size)
    (hD : ∀ W', KpD D w00 W' → W'.heap[gl]? = some (.cells #[.slice A ss.length c] 67 (0, 0)) ∧ W'.heap[gf]? = some (.cells #[.int .i64 fr] 3 (0, 0)) ∧ Kd.C k47 W' A ss.length ss)
    (hfr : fr ≤ 9223372036854775807) (hsl : ss.length ≤ 4611686018427387904) (hF : CodF k fr ss all)
    (J Jx : (Nat → Prop) → List AX → World → Prop) (hJ : AbidesG w.heap.size J) (hJx : AbidesG w.heap.size Jx) (h0 : J (fun _ => False) [] w)
    (hY : ∀ G0 G pre x Wp W1, (∀ k, G k → w.heap.size ≤ k ∧ k < W1.heap.size) → (∀ k, G0 k → w.heap.size ≤ k) → J G0 pre Wp → GrownG G0 Wp W1 → (∀ k, G k → G0 k ∨ Wp.heap.size ≤ k) → RdC all G pre x Wp W1 → YieldAt Fence.wide (n - 1) Try.prog l₀ (encA x) W1 fun e W' => (e = .returned (.bool true) ∧ J G (pre ++ [x]) W' ∧ KpD D W1 W' ∧ (∀ k, G k → W'.heap[k]? = W1.heap[k]?) ∧ KeepsFrom w.heap.size W1 W') ∨ (e = .returned (.bool false) ∧ Jx G (pre ++ [x]) W' ∧ KeepsFrom w.heap.size W1 W')) :
    CallsIn Fence.wide n Try.prog 92 #[.func (.yield l₀) #[] #[], .pointer (some ⟨gl, 0, none⟩), .pointer (some ⟨gf, 0, none⟩)] w fun e W' => (∃ v, e = .returned v) ∧ ∃ G : Nat → Prop, (∀ k, G k → w.heap.size ≤ k) ∧ ((∃ xs, xs.length = all.length ∧ J G xs W') ∨ (∃ pre, (1 ≤ pre.length ∧ pre.length ≤ all.length) ∧ Jx G pre W')) := by
  have hu47 := Try.underlying47
  have HN := Aside0.mk hn
  have hDw2 : ∀ k, D k → k < w.heap.size := fun k hk => Nat.lt_of_lt_of_le (hDw k hk) hW.size
  have HDW := Aside0.mk hDw2
  have HD := Aside0.mk hD
  have HFR := Aside0.mk hfr
  have HSL := Aside0.mk hsl
  have HF := Aside0.mk hF
  have HJ := Aside0.mk hJ
  have HJX := Aside0.mk hJx
  have HY := Aside0.mk hY
  have HK0 := Aside0.mk (show KpD D w00 w from ⟨hW.size, fun k hk => hW.block k (hDw k hk)⟩)
  obtain ⟨hgl, hgf, _⟩ := hD w HK0.out
  have hb1 : Below w.heap.size w (w.alloc (.cells #[.func (.yield l₀) #[] #[]] 114)) := (Below.refl _ w).alloc (Nat.le_refl _) _
  have hLies : LiesC D J w00 w l₀ w.heap.size (fun _ => False) [] [] (fun _ => False) w (w.alloc (.cells #[.func (.yield l₀) #[] #[]] 114)) := {
    box3 := blk_new w _
    told := h0
    grown := GrownG.of_below hb1
    own := fun _ h => h.elim
    fresh := fun k hk => by
      rcases hk with rfl | hk | hk
      · exact .inr (Nat.le_refl _)
      · cases hk
      · exact hk.elim
    kept := KpD.below HK0.out hDw2 hb1
    wp := Nat.le_refl _
    low := Nat.le_refl _
    nodup := .nil
    marks := by simp }
  have hq0 : (w.alloc (.cells #[.func (.yield l₀) #[] #[]] 114)).cell? ⟨gl, 0, none⟩ = some (.slice A ss.length c) := (blk_cell (blk_below hgl hb1) 0).trans rfl
  have LI0 := Aside0.mk hLies
  clear hn hDw hDw2 hD hfr hsl hF hJ hJx hY hW h0 hLies hb1 hgl hgf
  refine callsIn_of_wp_marks Try.func92 rfl trivial ?_
  simp only [Try.ntmps92, List.size_toArray, List.length_cons, List.length_nil, Nat.reduceAdd, Nat.reduceSub, Array.replicate_succ, Array.replicate_zero, List.push_toArray, List.append_toArray, List.nil_append, List.cons_append]
  refine wpIn_wide.2 ?_
  go_wp2
  refine wp_scope_straight ?_
  go_wp2
  refine wp_label ?_
  go_wp2
  generalize hw1 : w.alloc (.cells #[.func (.yield l₀) #[] #[]] 114) = w1 at LI0 hq0 ⊢
  generalize hb3 : w.heap.size = b3 at LI0 ⊢
  clear hb3 hw1 hq0 HK0
  refine wp_loop (fun a' W => ∃ (i : Nat) (pre : List AX) (rest : List (Int × List Int)) (Ds : List Nat) (G0 : Nat → Prop) (Wp : World), a' = { tmps := TMC l₀ gl gf b3 A ss.length c i (fun i => a'.tmps.getD i undef), defers := Ds.map fun D => { target := .collected D, args := #[] } } ∧ (i ≤ ss.length ∧ CodF k fr (ss.drop i) rest ∧ all.drop pre.length = rest ∧ pre.length ≤ all.length) ∧ LiesC D J w00 w l₀ b3 (fun _ => False) pre Ds G0 Wp W)
    (fun a' _ => leftC a')
    ⟨0, [], all, [], fun _ => False, w, by simp [TMC], ⟨Nat.zero_le _, HF.out, rfl, Nat.zero_le _⟩, LI0.out⟩ ?_
  rintro a' W ⟨i, pre, rest, Ds, G0, Wp, ha, ⟨hi, hcf, hrest, hpl⟩, hlies⟩
  generalize (fun i => a'.tmps.getD i undef) = u at ha
  subst ha
  unfold TMC
  have LI := Aside0.mk hlies
  have HREST := Aside0.mk hrest
  have HPL := Aside0.mk hpl
  clear hlies hrest hpl LI0
  by_cases hil : i < ss.length
  · have cd1 : decide ((i : Int) < (ss.length : Int)) = true := decide_eq_true (by omega)
    have cd2 : decide (i < ss.length) = true := decide_eq_true hil
    have p1 : (0 ≤ (i : Int)) = True := eq_true (by omega)
    have p2 : ((i : Int) < (ss.length : Int)) = True := eq_true (by omega)
    have p3 : (i < ss.length) = True := eq_true hil
    rw [List.drop_eq_getElem_cons hil] at hcf
    obtain ⟨hgl, hgf, hcs⟩ := HD.out W LI.out.kept
    obtain ⟨ad, Ap, cp, eA, hx0, hx1, hcp, hCp⟩ := at_T47 hcs (i : Int) (by omega) (by omega)
    subst eA
    have hrd : rd_T47 ss (i : Int) = ss[i] := by simp [rd_T47, List.getD, hil]
    rw [hrd] at hx0 hx1 hcp hCp
    rw [Int.toNat_natCast] at hx0 hx1
    generalize hp : ss[i] = p at hcf hx0 hx1 hcp hCp
    obtain ⟨p0, pf⟩ := p
    simp only at hx0 hx1 hcp hCp
    obtain ⟨cnt, hcnt, hpf, hcase⟩ := hcf
    simp only at hcnt hpf hcase
    have hcf0 : W.cell? ⟨gf, 0, none⟩ = some (.int .i64 fr) := (blk_cell hgf 0).trans rfl
    generalize hpl0 : p0.length = pl at hx0 hcp
    have HX5 := Aside0.mk (blk_new W (.cells #[.slice Ap pl cp, .int .i64 pf] 47))
    have HB4 : Aside0 (Below W.heap.size W (W.alloc (.cells #[.slice Ap pl cp, .int .i64 pf] 47))) := ⟨(Below.refl _ W).alloc (Nat.le_refl _) _⟩
    have HIL := Aside0.mk hil
    have HCNT := Aside0.mk hcnt
    have HPF := Aside0.mk hpf
    have HCASE := Aside0.mk hcase
    have HCP := Aside0.mk hcp
    have HCCP := Aside0.mk hCp
    have HPL0 := Aside0.mk hpl0
    have HGF := Aside0.mk hgf
    clear hi hil hgl hgf hcs hrd hcp hCp hp hcnt hpf hcase hpl0
    go_wp2
    have LI4 := Aside0.mk (LI.out.below HDW.out HB4.out)
    have hg4 : (W.alloc (.cells #[.slice Ap pl cp, .int .i64 pf] 47)).cell? ⟨gf, 0, none⟩ = some (.int .i64 fr) := (blk_cell (blk_below HGF.out HB4.out) 0).trans rfl
    have hg5 : (W.alloc (.cells #[.slice Ap pl cp, .int .i64 pf] 47)).cell? ⟨W.heap.size, 0, none⟩ = some (.slice Ap pl cp) := (blk_cell HX5.out 0).trans rfl
    have hg6 : (W.alloc (.cells #[.slice Ap pl cp, .int .i64 pf] 47)).cell? ⟨W.heap.size, 1, none⟩ = some (.int .i64 pf) := (blk_cell HX5.out 1).trans rfl
    have HC4 := Aside0.mk (Kd.C_below HCCP.out HB4.out)
    have hcount : ∀ w', Kd.C (Kd.slice 34 k34) w' Ap p0.length p0 → Calls Try.prog 71 #[.agg #[.slice Ap pl cp, .int .i64 pf]] w' fun e w'' => e = .returned (.int .i64 cnt) ∧ Below w'.heap.size w' w'' := fun w' h => by
      rw [← HPL0.out]
      exact shape_Count.calls k Ap cp p0 pf cnt w' h (by rw [HPL0.out]; exact HCP.out) HCNT.out
    have HCOUNT := Aside0.mk hcount
    clear hcount hx0 hx1 hcf0
    generalize hb5 : W.heap.size = b5 at HX5 hg5 hg6 HB4 ⊢
    generalize hW4 : W.alloc (.cells #[.slice Ap pl cp, .int .i64 pf] 47) = W4 at LI4 hg4 hg5 hg6 HC4 HX5 HB4 ⊢
    have HSB5 := Aside0.mk (show w.heap.size ≤ b5 ∧ b5 < W4.heap.size ∧ Wp.heap.size ≤ b5 ∧ (∀ k, k = b3 ∨ k ∈ Ds → k < b5) from ⟨by rw [← hb5]; exact LI.out.size, blk_lt HX5.out, by rw [← hb5]; exact LI.out.grown.size, fun k hk => by
      rw [← hb5]
      rcases hk with rfl | hk
      · exact blk_lt LI.out.box3
      · exact (Array.getElem?_eq_some_iff.1 (LI.out.marks k hk).2).1⟩)
    clear hb5 hW4 LI HCCP HB4
    by_cases c1 : pf < fr
    · have hw1 : wrap64 (fr - pf) = fr - pf := w64o (by omega) (by have := HFR.out; have := HPF.out; omega)
      have d1 : decide (fr > pf) = true := decide_eq_true c1
      have d1' : decide (pf < fr) = true := decide_eq_true c1
      by_cases c2 : cnt ≤ fr - pf
      · have d2 : decide (fr - pf ≥ cnt) = true := decide_eq_true c2
        have d2' : decide (cnt ≤ fr - pf) = true := decide_eq_true c2
        have hnext : CodF k fr (ss.drop (i + 1)) rest := by
          rcases HCASE.out with ⟨_, h⟩ | ⟨h, _⟩
          · exact h
          · exact absurd ⟨c1, c2⟩ h
        have HNEXT := Aside0.mk hnext
        clear c1 c2 hnext
        go_region_held3 (fun w' => w'.cell? ⟨gf, 0, none⟩ = some (.int .i64 fr) ∧ w'.cell? ⟨b5, 0, none⟩ = some (.slice Ap pl cp) ∧ w'.cell? ⟨b5, 1, none⟩ = some (.int .i64 pf))
          (first | go_keep | (go_split_ands; exact ⟨keepC HB5.out (by assumption), keepC HB5.out (by assumption), keepC HB5.out (by assumption)⟩))
          (first | (go_at_call 71; refine (HCOUNT.out _ (Kd.C_drew HC4.out)).mono ?_; rintro e w5 ⟨rfl, hb⟩; have HB5 := Aside0.mk hb; clear hb))
        have hwi : wrap64 ((i : Int) + 1) = (i : Int) + 1 := w64o (by omega) (by have := HIL.out; have := HSL.out; omega)
        rw [i64_w, hw1, d2']
        go_wp2
        rw [hwi]
        have hb45 : Below W4.heap.size W4 w5 := below_step (below_drew1 (Below.refl W4.heap.size W4)) HB5.out
        refine ⟨⟨i + 1, pre, rest, Ds, G0, Wp, rfl, ⟨by have := HIL.out; omega, HNEXT.out, HREST.out, HPL.out⟩, LI4.out.below HDW.out hb45⟩, ?_⟩
        have := HIL.out
        show ((ss.length : Int) - ((i : Int) + 1)).toNat < ((ss.length : Int) - (i : Int)).toNat
        omega
      · have d2 : decide (fr - pf ≥ cnt) = false := decide_eq_false (by omega)
        have d2' : decide (cnt ≤ fr - pf) = false := decide_eq_false c2
        have hno : ¬ (pf < fr ∧ cnt ≤ fr - pf) := fun h => c2 h.2
        have HNOT := Aside0.mk hno
        clear c1 c2 hno
        go_region_held3 (fun w' => w'.cell? ⟨gf, 0, none⟩ = some (.int .i64 fr) ∧ w'.cell? ⟨b5, 0, none⟩ = some (.slice Ap pl cp) ∧ w'.cell? ⟨b5, 1, none⟩ = some (.int .i64 pf))
          (first | go_keep | (go_split_ands; exact ⟨keepC HB5.out (by assumption), keepC HB5.out (by assumption), keepC HB5.out (by assumption)⟩))
          (first | (go_at_call 71; refine (HCOUNT.out _ (Kd.C_drew HC4.out)).mono ?_; rintro e w5 ⟨rfl, hb⟩; have HB5 := Aside0.mk hb; clear hb))
        rw [i64_w, hw1, d2']
        have HB45 : Aside0 (Below W4.heap.size W4 w5) := ⟨below_step (below_drew1 (Below.refl W4.heap.size W4)) HB5.out⟩
        clear HB5
        have hcasen : ∃ (r1 : List Int) (ok : Bool) (N : Nat) (sq : Nat → List Int) (L : Nat → List S133) (rest' : List (Int × List Int)), scheme_Copy.f k [⟨p0, pf⟩] = some [⟨p0, pf⟩] ∧ AllF k p0 pf (max fr pf - pf) r1 ok N sq L ∧ (1 ≤ N → max fr pf - pf + (N : Int) ≤ 1073741824) ∧ rest = ((List.range N).map fun (j : Nat) => (pf + (max fr pf - pf + (j : Int)), sq j)) ++ rest' ∧ CodF k fr (ss.drop (i + 1)) rest' := by
          rcases HCASE.out with ⟨h, _⟩ | ⟨_, h⟩
          · exact absurd h HNOT.out
          · exact h
        obtain ⟨r1, ok, N, sq, L, rest', hcp2, hAF, hNb, hrs, hnx⟩ := hcasen
        have HCP2 := Aside0.mk hcp2
        have HAF := Aside0.mk hAF
        have HNB := Aside0.mk hNb
        have HRS := Aside0.mk hrs
        have HNX := Aside0.mk hnx
        obtain ⟨f', hf'⟩ : ∃ f', f' = max fr pf - pf := ⟨_, rfl⟩
        have HF' := Aside0.mk hf'
        have hmx : max f' 0 = f' := by rw [hf']; omega
        have HMX := Aside0.mk hmx
        rw [← hf'] at HAF HNB HRS
        have hw2 : wrap64 (max fr pf - pf) = f' := by rw [hf']; exact w64o (by omega) (by have := HFR.out; have := HPF.out; omega)
        have C5 := Aside0.mk (Kd.C_below HC4.out HB45.out)
        have LI5 := Aside0.mk (LI4.out.below HDW.out HB45.out)
        have X5 := Aside0.mk (blk_below HX5.out HB45.out)
        have hall : ∀ w', Kd.C (Kd.slice 34 k34) w' Ap p0.length p0 → Calls Try.prog 36 #[.agg #[.slice Ap pl cp, .int .i64 pf], .int .i64 f'] w' _ := fun w' h => by
          rw [← HPL0.out]
          exact shape_All.calls k Ap cp p0 pf f' p0 pf w' h (by rw [HPL0.out]; exact HCP.out) HCP2.out
        have HALL := Aside0.mk hall
        clear hcp2 hAF hNb hrs hnx hf' hmx hall hg4 hg5 hg6
        have hg4 : w5.cell? ⟨gf, 0, none⟩ = some (.int .i64 fr) := (blk_cell (HD.out w5 LI5.out.kept).2.1 0).trans rfl
        have hg5 : w5.cell? ⟨b5, 0, none⟩ = some (.slice Ap pl cp) := (blk_cell X5.out 0).trans rfl
        have hg6 : w5.cell? ⟨b5, 1, none⟩ = some (.int .i64 pf) := (blk_cell X5.out 1).trans rfl
        go_wp2_with (first | (go_at_call 36; refine (HALL.out _ C5.out).mono ?_; rintro e w8 ⟨gf', gp', A8, c8, rfl, hgf8, hc8, hD8, hb8⟩; have HGF8 := Aside0.mk hgf8; have HC8 := Aside0.mk hc8; have HD8 := Aside0.mk hD8; have HB8 := Aside0.mk hb8; clear hgf8 hc8 hD8 hb8))
        have HSZ := Aside0.mk (show w5.heap.size ≤ w8.heap.size ∧ W4.heap.size ≤ w5.heap.size from ⟨HB8.out.size, HB45.out.size⟩)
        have LI8 := Aside0.mk (LI5.out.below HDW.out HB8.out)
        have X8 := Aside0.mk (blk_below X5.out HB8.out)
        have LIB : Aside0 (LiesC D J w00 w l₀ b3 (Bof b5 w8.heap.size w5.heap.size (fun _ => False)) (pre ++ ([] : List AX).map (cv pf)) Ds G0 Wp w8) := ⟨by
          rw [List.map_nil, List.append_nil]
          refine LI8.out.grow fun k hk => ?_
          have h1 := HSB5.out.2.2.1
          have h2 := HSB5.out.2.1
          have h3 := HSZ.out
          rcases hk with rfl | rfl | rfl | hk | hk
          · exact h1
          · omega
          · omega
          · exact hk.elim
          · omega⟩
        clear LI4 LI5 X5 hg4 hg5 hg6
        refine (wpIn_wide (n := n)).1 ?_
        refine wpIn_rangeFunc_toldH (F := Fence.wide) rfl (by have := HN.out; omega) (gf := 80) (lb := #[.pointer (some ⟨gf', 0, none⟩), .pointer (some ⟨gp', 0, none⟩)]) rfl trivial (enters_of Try.func80 (by kernel_rfl) rfl) (all_seq (n - 1) (by have := HN.out; omega) HAF.out (D := fun k => w5.heap.size ≤ k ∧ k < w8.heap.size) (w0 := w8) (fun k hk => hk.2) HGF8.out HC8.out HD8.out) KpD.trans ?hKb (Below.refl _ _) (fun _ => rfl)
          (fun Gi pre' W => ∃ G0 Wp, LiesC D J w00 w l₀ b3 (Bof b5 w8.heap.size w5.heap.size Gi) (pre ++ pre'.map (cv pf)) Ds G0 Wp W ∧ W.heap[b5]? = some (.cells #[.slice Ap pl cp, .int .i64 pf] 47 (0, 0)))
          (fun c Gi pre' W => c = .exit 0 ∧ Jx (fun k => k = b3 ∨ k ∈ Ds ∨ Bof b5 w8.heap.size w5.heap.size Gi k) (pre ++ pre'.map (cv pf)) W ∧ ∀ k ∈ Ds, W.heap[k]? = some (.deferred (some [])))
          ?hI ?hIx ?hIp ?hIxp ⟨G0, Wp, LIB.out, X8.out⟩
          (fun Gi pre' x a' W => a' = { tmps := TMB l₀ gl gf b3 b5 x (fun i => a'.tmps.getD i undef), defers := [] } ∧ w8.heap.size + 2 ≤ W.heap.size ∧ ∃ G0 Wp, LiesC D J w00 w l₀ b3 (Bof b5 w8.heap.size w5.heap.size Gi) (pre ++ pre'.map (cv pf)) Ds G0 Wp W ∧ W.heap[b5]? = some (.cells #[.slice Ap pl cp, .int .i64 pf] 47 (0, 0)) ∧ pre'.length < N ∧ x.k = f' + pre'.length ∧ x.b = sq pre'.length ∧ Kd.R (Kd.int .u8) 5 W Wp.heap.size (fun k => ¬ (k = b3 ∨ k ∈ Ds ∨ Bof b5 w8.heap.size w5.heap.size Gi k)) (.slice x.A x.b.length x.c) x.b)
          ?hAx ?hassign ?hbody ?hdone ?hstop
        case hKb =>
          intro W l_ o o' hl_ ho hc_ hw_
          exact KpD.grown (KpD.refl _ W) (grownBy_putObj' W l_ o') (fun k hk => ⟨by have := (Array.getElem?_eq_some_iff.1 ho).1; omega, fun e => by cases e; omega⟩)
        case hI =>
          rintro B hB Gi Gi' pre' W W' ⟨G0', Wp', hl, h5⟩ hG hg hG'
          have h1 := HSB5.out
          have h3 := HSZ.out
          refine ⟨G0', Wp', hl.abide HDW.out hg (fun k hk => ⟨.inr (.inr (.inr (.inl hk))), by have := hG k hk; omega, fun e => by have := hG k hk; have := h1.2.2.2 b3 (.inl rfl); omega, fun hd => by have := hG k hk; have := h1.2.2.2 k (.inr hd); omega⟩) (fun k hk => ?_), (hg.block b5 (blk_lt h5) (fun hk => by have := hG b5 hk; omega)).trans h5⟩
          rcases hk with hk | hk | hk | hk | hk
          · exact .inl (.inl hk)
          · exact .inl (.inr (.inl hk))
          · exact .inl (.inr (.inr (.inl hk)))
          · rcases hG' k hk with hk | hk
            · exact .inl (.inr (.inr (.inr (.inl hk))))
            · exact .inr hk
          · exact .inl (.inr (.inr (.inr (.inr hk))))
        case hIx =>
          rintro c B hB Gi Gi' pre' W W' ⟨h0, hx, hm⟩ hG hg hG'
          have h1 := HSB5.out
          have h3 := HSZ.out
          have h4 := LI8.out.low
          have h5 := LI8.out.marks
          refine ⟨h0, HJX.out _ _ _ _ _ hx (fun k hk => ?_) (GrownG.mono hg (fun k hk => .inr (.inr (.inr (.inr (.inr (.inl hk))))))) (fun k hk => ?_), fun k hk => (hg.block k (Array.getElem?_eq_some_iff.1 (hm k hk)).1 (fun hk2 => by have := hG k hk2; have := h1.2.2.2 k (.inr hk); omega)).trans (hm k hk)⟩
          · rcases hk with rfl | hk | hk | hk | hk | hk | hk
            · exact h4
            · exact (h5 k hk).1
            · omega
            · omega
            · omega
            · have := hG k hk; omega
            · omega
          · rcases hk with hk | hk | hk | hk | hk | hk | hk
            · exact .inl (.inl hk)
            · exact .inl (.inr (.inl hk))
            · exact .inl (.inr (.inr (.inl hk)))
            · exact .inl (.inr (.inr (.inr (.inl hk))))
            · exact .inl (.inr (.inr (.inr (.inr (.inl hk)))))
            · rcases hG' k hk with hk | hk
              · exact .inl (.inr (.inr (.inr (.inr (.inr (.inl hk))))))
              · exact .inr hk
            · exact .inl (.inr (.inr (.inr (.inr (.inr (.inr hk))))))
        case hIp =>
          rintro Gi pre' W l_ o o' hG ⟨G0', Wp', hl, h5⟩ rfl ho hc_
          have h1 := HSB5.out
          have h3 := HSZ.out
          exact ⟨G0', Wp', hl.put HDW.out ⟨.inr (.inr (.inl rfl)), by omega, fun e => by have := h1.2.2.2 b3 (.inl rfl); omega, fun hd => by have := h1.2.2.2 _ (.inr hd); omega⟩ o', (World.putObj_heap_other (by omega)).trans h5⟩
        case hIxp =>
          rintro c Gi pre' W l_ o o' hG ⟨h0, hx, hm⟩ rfl ho hc_
          have h1 := HSB5.out
          have h3 := HSZ.out
          have h4 := LI8.out.low
          have h5 := LI8.out.marks
          refine ⟨h0, HJX.out _ _ _ _ _ hx (fun k hk => ?_) (GrownG.put (.inr (.inr (.inr (.inr (.inl rfl))))) o') (fun k hk => .inl hk), fun k hk => (World.putObj_heap_other (by have := h1.2.2.2 k (.inr hk); omega)).trans (hm k hk)⟩
          rcases hk with rfl | hk | hk | hk | hk | hk | hk
          · exact h4
          · exact (h5 k hk).1
          · omega
          · omega
          · omega
          · have := hG k hk; omega
          · omega
        case hAx =>
          rintro Gi pre' x a' W o o' hG ⟨hu, hz, G0', Wp', hl, h5, h6, h7, h8, h9⟩ ho hc_
          have h1 := HSB5.out
          have h3 := HSZ.out
          exact ⟨hu, by simpa [World.putObj] using hz, G0', Wp', hl.put HDW.out ⟨.inr (.inr (.inl rfl)), by omega, fun e => by have := h1.2.2.2 b3 (.inl rfl); omega, fun hd => by have := h1.2.2.2 _ (.inr hd); omega⟩ o', (World.putObj_heap_other (by omega)).trans h5, h6, h7, h8, Kd.R_grown h9 (grownBy_putObj' W _ o') (fun k hk e => by cases e; exact hk (.inr (.inr (.inr (.inr (.inl rfl))))))⟩
        case hassign =>
          rintro l_ G0i Gi pre' x Wpi W K hG hG0 hWpi ⟨G0', Wp', hl, h5⟩ hg0 hfr_ hI hRd hK
          have h1 := HSB5.out
          have h3 := HSZ.out
          have hl2 : LiesC D J w00 w l₀ b3 (Bof b5 w8.heap.size w5.heap.size Gi) (pre ++ pre'.map (cv pf)) Ds G0' Wp' W := hl.abide HDW.out hg0 (fun k hk => ⟨.inr (.inr (.inr (.inl hk))), by have := hG0 k hk; omega, fun e => by have := hG0 k hk; have := h1.2.2.2 b3 (.inl rfl); omega, fun hd => by have := hG0 k hk; have := h1.2.2.2 k (.inr hd); omega⟩) (fun k hk => by
            rcases hk with hk | hk | hk | hk | hk
            · exact .inl (.inl hk)
            · exact .inl (.inr (.inl hk))
            · exact .inl (.inr (.inr (.inl hk)))
            · rcases hfr_ k hk with hk | hk
              · exact .inl (.inr (.inr (.inr (.inl hk))))
              · exact .inr hk
            · exact .inl (.inr (.inr (.inr (.inr hk)))))
          have hR : Kd.R (Kd.int .u8) 5 W Wp'.heap.size (fun k => ¬ (k = b3 ∨ k ∈ Ds ∨ Bof b5 w8.heap.size w5.heap.size Gi k)) (.slice x.A x.b.length x.c) x.b := Kd.R_lower (Kd.R_mono (Kd.R_bound hRd.2.2.2) (fun k hk hn => by
            have h6 := hk.2.1
            rcases hn with rfl | hn | hn | hn | hn | hn | hn
            · have := h1.2.2.2 k (.inl rfl); omega
            · have := h1.2.2.2 k (.inr hn); omega
            · omega
            · omega
            · omega
            · exact hk.1 hn
            · omega)) hl.grown.size
          have h52 := (hg0.block b5 (blk_lt h5) (fun hk => by have := hG0 b5 hk; omega)).trans h5
          have hz2 := hg0.size
          unfold encA
          simp only [List.size_toArray, Array.zip, List.zip_toArray]
          gi_wp2
          exact hK _ _ (KeepsFrom.refl _ _) (KpD.refl _ _) (fun _ _ => rfl) hI ⟨rfl, by omega, G0', Wp', hl2, h52, hRd.1, by rw [hRd.2.1, HMX.out], hRd.2.2.1, hR⟩
        case hbody =>
          rintro l_ Gi pre' x_ a' W hG hI ⟨ha, hz, G0', Wp', hl, h5, hpl', hxk, hxb, hR⟩
          generalize (fun i => a'.tmps.getD i undef) = u'' at ha
          subst ha
          obtain ⟨xk, xA, xc, xb⟩ := x_
          unfold TMB
          simp only at hxk hxb hR ⊢
          have HL := Aside0.mk hl
          have h1 := HSB5.out
          have h3 := HSZ.out
          have hgb : ∀ k, (k = b3 ∨ k ∈ Ds ∨ Bof b5 w8.heap.size w5.heap.size Gi k) → w.heap.size ≤ k ∧ k < W.heap.size := fun k hk => by
            rcases hk with rfl | hk | hk | hk | hk | hk | hk
            · exact ⟨hl.low, blk_lt hl.box3⟩
            · exact ⟨(hl.marks k hk).1, (Array.getElem?_eq_some_iff.1 (hl.marks k hk).2).1⟩
            · omega
            · omega
            · omega
            · have := hG k hk; omega
            · omega
          have hlen : (pre ++ pre'.map (cv pf)).length = pre.length + pre'.length := by simp
          have hat : all[(pre ++ pre'.map (cv pf)).length]? = some (pf + xk, xb) := by
            rw [hlen, ← List.getElem?_drop, HREST.out, HRS.out, List.getElem?_append_left (by simpa using hpl'), List.getElem?_map, List.getElem?_range hpl', hxk, hxb]
            rfl
          have hyy := HY.out G0' (fun k => k = b3 ∨ k ∈ Ds ∨ Bof b5 w8.heap.size w5.heap.size Gi k) (pre ++ pre'.map (cv pf)) ⟨pf + xk, xA, xc, xb⟩ Wp' W hgb hl.own hl.told hl.grown hl.fresh ⟨hat, hR⟩
          simp only [encA] at hyy
          obtain ⟨fn, tmps, assign, body, hy, hR2⟩ := hyy
          have hwk : wrap64 (pf + xk) = pf + xk := by
            have hb := HNB.out (by omega)
            have hp_ := HPF.out
            have hf_ := HF'.out
            exact w64o (by omega) (by omega)
          have c3 : W.cell? ⟨b3, 0, none⟩ = some (.func (.yield l₀) #[] #[]) := (blk_cell hl.box3 0).trans rfl
          have c5 : W.cell? ⟨b5, 1, none⟩ = some (.int .i64 pf) := (blk_cell h5 1).trans rfl
          have HGB := Aside0.mk hgb
          have HG := Aside0.mk hG
          have H5 := Aside0.mk h5
          clear hl h5 hpl' hxk hxb hR hlen hat hgb hG hI hz h1 h3
          gi_wp2
          refine ⟨fun h => (by cases h), (RoundIn.within hR2).mono ?_⟩
          have ecv : ∀ xs : List AX, pre ++ (xs ++ [(⟨xk, xA, xc, xb⟩ : AX)]).map (cv pf) = pre ++ xs.map (cv pf) ++ [⟨pf + xk, xA, xc, xb⟩] := fun xs => by simp [cv]
          have hsz8 : w.heap.size ≤ w8.heap.size := by have := HSB5.out; have := HSZ.out; omega
          rintro e W3 (⟨rfl, hJ3, hk3, hg3, hkf3⟩ | ⟨rfl, hJx3, hkf3⟩)
          · have R1 := Aside0.mk (KeepsFrom.up hkf3 hsz8)
            have R2 : Aside0 (KpD (fun k => w5.heap.size ≤ k ∧ k < w8.heap.size) W W3) := ⟨hk3.1, fun k hk => hg3 k (.inr (.inr (.inr (.inr (.inr (.inr hk))))))⟩
            have R3 : Aside0 (∀ k, Gi k → W3.heap[k]? = W.heap[k]?) := ⟨fun k hk => hg3 k (.inr (.inr (.inr (.inr (.inr (.inl hk))))))⟩
            have R4 : Aside0 (LiesC D J w00 w l₀ b3 (Bof b5 w8.heap.size w5.heap.size Gi) (pre ++ (pre' ++ [(⟨xk, xA, xc, xb⟩ : AX)]).map (cv pf)) Ds (fun k => k = b3 ∨ k ∈ Ds ∨ Bof b5 w8.heap.size w5.heap.size Gi k) W3 W3) := ⟨{
              box3 := (hg3 b3 (.inl rfl)).trans HL.out.box3
              told := by rw [ecv]; exact hJ3
              grown := GrownG.refl _ _
              own := fun k hk => (HGB.out k hk).1
              fresh := fun k hk => .inl hk
              kept := HL.out.kept.trans hk3
              wp := Nat.le_trans HL.out.size hk3.1
              low := HL.out.low
              nodup := HL.out.nodup
              marks := fun k hk => ⟨(HL.out.marks k hk).1, (hg3 k (.inr (.inl hk))).trans (HL.out.marks k hk).2⟩ }⟩
            have R5 := Aside0.mk ((hg3 b5 (.inr (.inr (.inl rfl)))).trans H5.out)
            clear hJ3 hk3 hg3 hkf3 hR2 hy ecv hsz8
            gi_wp2
            exact ⟨R1.out, ⟨R2.out, R3.out⟩, _, _, R4.out, R5.out⟩
          · have R1 := Aside0.mk (KeepsFrom.up hkf3 hsz8)
            have R2 : Aside0 (Jx (fun k => k = b3 ∨ k ∈ Ds ∨ Bof b5 w8.heap.size w5.heap.size Gi k) (pre ++ (pre' ++ [(⟨xk, xA, xc, xb⟩ : AX)]).map (cv pf)) W3) := ⟨by rw [ecv]; exact hJx3⟩
            have R3 : Aside0 (∀ k ∈ Ds, W3.heap[k]? = some (.deferred (some []))) := ⟨fun k hk => hkf3.same k _ (HL.out.marks k hk).1 (HL.out.marks k hk).2 rfl⟩
            clear hJx3 hkf3 hR2 hy ecv hsz8
            gi_wp2
            exact ⟨R1.out, rfl, R2.out, R3.out⟩
        case hdone =>
          rintro M Gi ys W9 hM hys ⟨G0', Wp', hl, h5⟩ hMd
          have h1 := HSB5.out
          have h3 := HSZ.out
          have HLM := Aside0.mk (hl.mark hMd (.inr (.inl hM)) (by omega) (fun hd => by have := h1.2.2.2 M (.inr hd); omega))
          have hwi : wrap64 ((i : Int) + 1) = (i : Int) + 1 := w64o (by omega) (by have := HIL.out; have := HSL.out; omega)
          have HYS := Aside0.mk (show ys.length = N from hys)
          clear hl h5 hMd hys hM h1 h3
          gi_wp2
          try go_wp2
          rw [hwi]
          have hlen : (pre ++ ys.map (cv pf)).length = pre.length + N := by have := HYS.out; simp; omega
          have hdr : all.drop (pre.length + N) = rest' := by
            rw [← List.drop_drop, HREST.out, HRS.out, List.drop_append_of_le_length (by simp), List.drop_of_length_le (by simp), List.nil_append]
          have hle : pre.length + N ≤ all.length := by
            have h1 := HPL.out
            have h2 := congrArg List.length HREST.out
            rw [HRS.out] at h2
            simp at h2
            omega
          refine ⟨⟨i + 1, pre ++ ys.map (cv pf), rest', M :: Ds, G0', Wp', rfl, ⟨by have := HIL.out; omega, HNX.out, by rw [hlen]; exact hdr, by rw [hlen]; exact hle⟩, HLM.out⟩, ?_⟩
          have := HIL.out
          show ((ss.length : Int) - ((i : Int) + 1)).toNat < ((ss.length : Int) - (i : Int)).toNat
          omega
        case hstop =>
          rintro M c Gi pre' W9 hM hGi hSp ⟨rfl, hjx, hmk⟩ hMd
          have h1 := HSB5.out
          have h3 := HSZ.out
          have h4 := LI8.out.low
          have h5 := LI8.out.marks
          have HJX9 := Aside0.mk hjx
          have HSP := Aside0.mk hSp
          have HND := Aside0.mk (show (M :: Ds).Nodup from List.nodup_cons.2 ⟨fun hd => by have := h1.2.2.2 M (.inr hd); omega, LI8.out.nodup⟩)
          have HMK := Aside0.mk (show ∀ k ∈ M :: Ds, W9.heap[k]? = some (.deferred (some [])) from fun k hk => by
            rcases List.mem_cons.1 hk with rfl | hk
            · exact hMd
            · exact hmk k hk)
          have hle : pre.length + N ≤ all.length := by
            have h1 := HPL.out
            have h2 := congrArg List.length HREST.out
            rw [HRS.out] at h2
            simp at h2
            omega
          have HLE := Aside0.mk hle
          have HMW := Aside0.mk hM
          have hown : ∀ k, (k = b3 ∨ k ∈ Ds ∨ Bof b5 w8.heap.size w5.heap.size Gi k) → w.heap.size ≤ k := fun k hk => by
            rcases hk with rfl | hk | hk | hk | hk | hk | hk
            · exact h4
            · exact (h5 k hk).1
            · omega
            · omega
            · omega
            · have := hGi k hk; omega
            · omega
          have HOWN := Aside0.mk hown
          clear hown hGi
          clear hjx hSp hmk hMd hM h1 h3 h4 h5 hle
          gi_wp2
          try refine noGoto_n ?_
          refine leaves_marks2 (M := fun k => k = b3 ∨ k ∈ Ds ∨ Bof b5 w8.heap.size w5.heap.size Gi k) (X := fun W => Jx (fun k => k = b3 ∨ k ∈ Ds ∨ Bof b5 w8.heap.size w5.heap.size Gi k) (pre ++ pre'.map (cv pf)) W) ?_ ?_ (M :: Ds) _ HND.out ?_ HJX9.out
          · exact fun W k hx hM2 _ => HJX.out _ _ _ _ _ hx HOWN.out (GrownG.put (G := fun k => k = b3 ∨ k ∈ Ds ∨ Bof b5 w8.heap.size w5.heap.size Gi k) hM2 _) (fun k h => .inl h)
          · exact fun W hx => ⟨_, results_none rfl _ _ _, ⟨_, rfl⟩, _, HOWN.out, .inr ⟨_, ⟨by have := HSP.out; simp; omega, by have := HSP.out; have := HLE.out; simp; omega⟩, hx⟩⟩
          · intro k hk
            refine ⟨?_, HMK.out k hk⟩
            rcases List.mem_cons.1 hk with rfl | hk
            · exact .inr (.inr (.inr (.inl HMW.out)))
            · exact .inr (.inl hk)
    · have d1 : decide (fr > pf) = false := decide_eq_false (by omega)
      have d1' : decide (pf < fr) = false := decide_eq_false c1
      have hno : ¬ (pf < fr ∧ cnt ≤ fr - pf) := fun h => c1 h.1
      have HNOT := Aside0.mk hno
      have d1p : (pf < fr) = False := eq_false c1
      clear c1 hno
      go_quiet (fail)
      have HB45 : Aside0 (Below W4.heap.size W4 (W4.drewN nq)) := ⟨pw_below_drewN (Below.refl W4.heap.size W4) nq⟩
      generalize W4.drewN nq = w5 at HB45 ⊢
      have hcasen : ∃ (r1 : List Int) (ok : Bool) (N : Nat) (sq : Nat → List Int) (L : Nat → List S133) (rest' : List (Int × List Int)), scheme_Copy.f k [⟨p0, pf⟩] = some [⟨p0, pf⟩] ∧ AllF k p0 pf (max fr pf - pf) r1 ok N sq L ∧ (1 ≤ N → max fr pf - pf + (N : Int) ≤ 1073741824) ∧ rest = ((List.range N).map fun (j : Nat) => (pf + (max fr pf - pf + (j : Int)), sq j)) ++ rest' ∧ CodF k fr (ss.drop (i + 1)) rest' := by
        rcases HCASE.out with ⟨h, _⟩ | ⟨_, h⟩
        · exact absurd h HNOT.out
        · exact h
      obtain ⟨r1, ok, N, sq, L, rest', hcp2, hAF, hNb, hrs, hnx⟩ := hcasen
      have HCP2 := Aside0.mk hcp2
      have HAF := Aside0.mk hAF
      have HNB := Aside0.mk hNb
      have HRS := Aside0.mk hrs
      have HNX := Aside0.mk hnx
      obtain ⟨f', hf'⟩ : ∃ f', f' = max fr pf - pf := ⟨_, rfl⟩
      have HF' := Aside0.mk hf'
      have hmx : max f' 0 = f' := by rw [hf']; omega
      have HMX := Aside0.mk hmx
      rw [← hf'] at HAF HNB HRS
      have hw2 : wrap64 (max fr pf - pf) = f' := by rw [hf']; exact w64o (by omega) (by have := HFR.out; have := HPF.out; omega)
      have C5 := Aside0.mk (Kd.C_below HC4.out HB45.out)
      have LI5 := Aside0.mk (LI4.out.below HDW.out HB45.out)
      have X5 := Aside0.mk (blk_below HX5.out HB45.out)
      have hall : ∀ w', Kd.C (Kd.slice 34 k34) w' Ap p0.length p0 → Calls Try.prog 36 #[.agg #[.slice Ap pl cp, .int .i64 pf], .int .i64 f'] w' _ := fun w' h => by
        rw [← HPL0.out]
        exact shape_All.calls k Ap cp p0 pf f' p0 pf w' h (by rw [HPL0.out]; exact HCP.out) HCP2.out
      have HALL := Aside0.mk hall
      clear hcp2 hAF hNb hrs hnx hf' hmx hall hg4 hg5 hg6
      have hg4 : w5.cell? ⟨gf, 0, none⟩ = some (.int .i64 fr) := (blk_cell (HD.out w5 LI5.out.kept).2.1 0).trans rfl
      have hg5 : w5.cell? ⟨b5, 0, none⟩ = some (.slice Ap pl cp) := (blk_cell X5.out 0).trans rfl
      have hg6 : w5.cell? ⟨b5, 1, none⟩ = some (.int .i64 pf) := (blk_cell X5.out 1).trans rfl
      go_wp2_with (first | (go_at_call 36; refine (HALL.out _ C5.out).mono ?_; rintro e w8 ⟨gf', gp', A8, c8, rfl, hgf8, hc8, hD8, hb8⟩; have HGF8 := Aside0.mk hgf8; have HC8 := Aside0.mk hc8; have HD8 := Aside0.mk hD8; have HB8 := Aside0.mk hb8; clear hgf8 hc8 hD8 hb8))
      have HSZ := Aside0.mk (show w5.heap.size ≤ w8.heap.size ∧ W4.heap.size ≤ w5.heap.size from ⟨HB8.out.size, HB45.out.size⟩)
      have LI8 := Aside0.mk (LI5.out.below HDW.out HB8.out)
      have X8 := Aside0.mk (blk_below X5.out HB8.out)
      have LIB : Aside0 (LiesC D J w00 w l₀ b3 (Bof b5 w8.heap.size w5.heap.size (fun _ => False)) (pre ++ ([] : List AX).map (cv pf)) Ds G0 Wp w8) := ⟨by
        rw [List.map_nil, List.append_nil]
        refine LI8.out.grow fun k hk => ?_
        have h1 := HSB5.out.2.2.1
        have h2 := HSB5.out.2.1
        have h3 := HSZ.out
        rcases hk with rfl | rfl | rfl | hk | hk
        · exact h1
        · omega
        · omega
        · exact hk.elim
        · omega⟩
      clear LI4 LI5 X5 hg4 hg5 hg6
      refine (wpIn_wide (n := n)).1 ?_
      refine wpIn_rangeFunc_toldH (F := Fence.wide) rfl (by have := HN.out; omega) (gf := 80) (lb := #[.pointer (some ⟨gf', 0, none⟩), .pointer (some ⟨gp', 0, none⟩)]) rfl trivial (enters_of Try.func80 (by kernel_rfl) rfl) (all_seq (n - 1) (by have := HN.out; omega) HAF.out (D := fun k => w5.heap.size ≤ k ∧ k < w8.heap.size) (w0 := w8) (fun k hk => hk.2) HGF8.out HC8.out HD8.out) KpD.trans ?hKb (Below.refl _ _) (fun _ => rfl)
        (fun Gi pre' W => ∃ G0 Wp, LiesC D J w00 w l₀ b3 (Bof b5 w8.heap.size w5.heap.size Gi) (pre ++ pre'.map (cv pf)) Ds G0 Wp W ∧ W.heap[b5]? = some (.cells #[.slice Ap pl cp, .int .i64 pf] 47 (0, 0)))
        (fun c Gi pre' W => c = .exit 0 ∧ Jx (fun k => k = b3 ∨ k ∈ Ds ∨ Bof b5 w8.heap.size w5.heap.size Gi k) (pre ++ pre'.map (cv pf)) W ∧ ∀ k ∈ Ds, W.heap[k]? = some (.deferred (some [])))
        ?hI ?hIx ?hIp ?hIxp ⟨G0, Wp, LIB.out, X8.out⟩
        (fun Gi pre' x a' W => a' = { tmps := TMB l₀ gl gf b3 b5 x (fun i => a'.tmps.getD i undef), defers := [] } ∧ w8.heap.size + 2 ≤ W.heap.size ∧ ∃ G0 Wp, LiesC D J w00 w l₀ b3 (Bof b5 w8.heap.size w5.heap.size Gi) (pre ++ pre'.map (cv pf)) Ds G0 Wp W ∧ W.heap[b5]? = some (.cells #[.slice Ap pl cp, .int .i64 pf] 47 (0, 0)) ∧ pre'.length < N ∧ x.k = f' + pre'.length ∧ x.b = sq pre'.length ∧ Kd.R (Kd.int .u8) 5 W Wp.heap.size (fun k => ¬ (k = b3 ∨ k ∈ Ds ∨ Bof b5 w8.heap.size w5.heap.size Gi k)) (.slice x.A x.b.length x.c) x.b)
        ?hAx ?hassign ?hbody ?hdone ?hstop
      case hKb =>
        intro W l_ o o' hl_ ho hc_ hw_
        exact KpD.grown (KpD.refl _ W) (grownBy_putObj' W l_ o') (fun k hk => ⟨by have := (Array.getElem?_eq_some_iff.1 ho).1; omega, fun e => by cases e; omega⟩)
      case hI =>
        rintro B hB Gi Gi' pre' W W' ⟨G0', Wp', hl, h5⟩ hG hg hG'
        have h1 := HSB5.out
        have h3 := HSZ.out
        refine ⟨G0', Wp', hl.abide HDW.out hg (fun k hk => ⟨.inr (.inr (.inr (.inl hk))), by have := hG k hk; omega, fun e => by have := hG k hk; have := h1.2.2.2 b3 (.inl rfl); omega, fun hd => by have := hG k hk; have := h1.2.2.2 k (.inr hd); omega⟩) (fun k hk => ?_), (hg.block b5 (blk_lt h5) (fun hk => by have := hG b5 hk; omega)).trans h5⟩
        rcases hk with hk | hk | hk | hk | hk
        · exact .inl (.inl hk)
        · exact .inl (.inr (.inl hk))
        · exact .inl (.inr (.inr (.inl hk)))
        · rcases hG' k hk with hk | hk
          · exact .inl (.inr (.inr (.inr (.inl hk))))
          · exact .inr hk
        · exact .inl (.inr (.inr (.inr (.inr hk))))
      case hIx =>
        rintro c B hB Gi Gi' pre' W W' ⟨h0, hx, hm⟩ hG hg hG'
        have h1 := HSB5.out
        have h3 := HSZ.out
        have h4 := LI8.out.low
        have h5 := LI8.out.marks
        refine ⟨h0, HJX.out _ _ _ _ _ hx (fun k hk => ?_) (GrownG.mono hg (fun k hk => .inr (.inr (.inr (.inr (.inr (.inl hk))))))) (fun k hk => ?_), fun k hk => (hg.block k (Array.getElem?_eq_some_iff.1 (hm k hk)).1 (fun hk2 => by have := hG k hk2; have := h1.2.2.2 k (.inr hk); omega)).trans (hm k hk)⟩
        · rcases hk with rfl | hk | hk | hk | hk | hk | hk
          · exact h4
          · exact (h5 k hk).1
          · omega
          · omega
          · omega
          · have := hG k hk; omega
          · omega
        · rcases hk with hk | hk | hk | hk | hk | hk | hk
          · exact .inl (.inl hk)
          · exact .inl (.inr (.inl hk))
          · exact .inl (.inr (.inr (.inl hk)))
          · exact .inl (.inr (.inr (.inr (.inl hk))))
          · exact .inl (.inr (.inr (.inr (.inr (.inl hk)))))
          · rcases hG' k hk with hk | hk
            · exact .inl (.inr (.inr (.inr (.inr (.inr (.inl hk))))))
            · exact .inr hk
          · exact .inl (.inr (.inr (.inr (.inr (.inr (.inr hk))))))
      case hIp =>
        rintro Gi pre' W l_ o o' hG ⟨G0', Wp', hl, h5⟩ rfl ho hc_
        have h1 := HSB5.out
        have h3 := HSZ.out
        exact ⟨G0', Wp', hl.put HDW.out ⟨.inr (.inr (.inl rfl)), by omega, fun e => by have := h1.2.2.2 b3 (.inl rfl); omega, fun hd => by have := h1.2.2.2 _ (.inr hd); omega⟩ o', (World.putObj_heap_other (by omega)).trans h5⟩
      case hIxp =>
        rintro c Gi pre' W l_ o o' hG ⟨h0, hx, hm⟩ rfl ho hc_
        have h1 := HSB5.out
        have h3 := HSZ.out
        have h4 := LI8.out.low
        have h5 := LI8.out.marks
        refine ⟨h0, HJX.out _ _ _ _ _ hx (fun k hk => ?_) (GrownG.put (.inr (.inr (.inr (.inr (.inl rfl))))) o') (fun k hk => .inl hk), fun k hk => (World.putObj_heap_other (by have := h1.2.2.2 k (.inr hk); omega)).trans (hm k hk)⟩
        rcases hk with rfl | hk | hk | hk | hk | hk | hk
        · exact h4
        · exact (h5 k hk).1
        · omega
        · omega
        · omega
        · have := hG k hk; omega
        · omega
      case hAx =>
        rintro Gi pre' x a' W o o' hG ⟨hu, hz, G0', Wp', hl, h5, h6, h7, h8, h9⟩ ho hc_
        have h1 := HSB5.out
        have h3 := HSZ.out
        exact ⟨hu, by simpa [World.putObj] using hz, G0', Wp', hl.put HDW.out ⟨.inr (.inr (.inl rfl)), by omega, fun e => by have := h1.2.2.2 b3 (.inl rfl); omega, fun hd => by have := h1.2.2.2 _ (.inr hd); omega⟩ o', (World.putObj_heap_other (by omega)).trans h5, h6, h7, h8, Kd.R_grown h9 (grownBy_putObj' W _ o') (fun k hk e => by cases e; exact hk (.inr (.inr (.inr (.inr (.inl rfl))))))⟩
      case hassign =>
        rintro l_ G0i Gi pre' x Wpi W K hG hG0 hWpi ⟨G0', Wp', hl, h5⟩ hg0 hfr_ hI hRd hK
        have h1 := HSB5.out
        have h3 := HSZ.out
        have hl2 : LiesC D J w00 w l₀ b3 (Bof b5 w8.heap.size w5.heap.size Gi) (pre ++ pre'.map (cv pf)) Ds G0' Wp' W := hl.abide HDW.out hg0 (fun k hk => ⟨.inr (.inr (.inr (.inl hk))), by have := hG0 k hk; omega, fun e => by have := hG0 k hk; have := h1.2.2.2 b3 (.inl rfl); omega, fun hd => by have := hG0 k hk; have := h1.2.2.2 k (.inr hd); omega⟩) (fun k hk => by
          rcases hk with hk | hk | hk | hk | hk
          · exact .inl (.inl hk)
          · exact .inl (.inr (.inl hk))
          · exact .inl (.inr (.inr (.inl hk)))
          · rcases hfr_ k hk with hk | hk
            · exact .inl (.inr (.inr (.inr (.inl hk))))
            · exact .inr hk
          · exact .inl (.inr (.inr (.inr (.inr hk)))))
        have hR : Kd.R (Kd.int .u8) 5 W Wp'.heap.size (fun k => ¬ (k = b3 ∨ k ∈ Ds ∨ Bof b5 w8.heap.size w5.heap.size Gi k)) (.slice x.A x.b.length x.c) x.b := Kd.R_lower (Kd.R_mono (Kd.R_bound hRd.2.2.2) (fun k hk hn => by
          have h6 := hk.2.1
          rcases hn with rfl | hn | hn | hn | hn | hn | hn
          · have := h1.2.2.2 k (.inl rfl); omega
          · have := h1.2.2.2 k (.inr hn); omega
          · omega
          · omega
          · omega
          · exact hk.1 hn
          · omega)) hl.grown.size
        have h52 := (hg0.block b5 (blk_lt h5) (fun hk => by have := hG0 b5 hk; omega)).trans h5
        have hz2 := hg0.size
        unfold encA
        simp only [List.size_toArray, Array.zip, List.zip_toArray]
        gi_wp2
        exact hK _ _ (KeepsFrom.refl _ _) (KpD.refl _ _) (fun _ _ => rfl) hI ⟨rfl, by omega, G0', Wp', hl2, h52, hRd.1, by rw [hRd.2.1, HMX.out], hRd.2.2.1, hR⟩
      case hbody =>
        rintro l_ Gi pre' x_ a' W hG hI ⟨ha, hz, G0', Wp', hl, h5, hpl', hxk, hxb, hR⟩
        generalize (fun i => a'.tmps.getD i undef) = u'' at ha
        subst ha
        obtain ⟨xk, xA, xc, xb⟩ := x_
        unfold TMB
        simp only at hxk hxb hR ⊢
        have HL := Aside0.mk hl
        have h1 := HSB5.out
        have h3 := HSZ.out
        have hgb : ∀ k, (k = b3 ∨ k ∈ Ds ∨ Bof b5 w8.heap.size w5.heap.size Gi k) → w.heap.size ≤ k ∧ k < W.heap.size := fun k hk => by
          rcases hk with rfl | hk | hk | hk | hk | hk | hk
          · exact ⟨hl.low, blk_lt hl.box3⟩
          · exact ⟨(hl.marks k hk).1, (Array.getElem?_eq_some_iff.1 (hl.marks k hk).2).1⟩
          · omega
          · omega
          · omega
          · have := hG k hk; omega
          · omega
        have hlen : (pre ++ pre'.map (cv pf)).length = pre.length + pre'.length := by simp
        have hat : all[(pre ++ pre'.map (cv pf)).length]? = some (pf + xk, xb) := by
          rw [hlen, ← List.getElem?_drop, HREST.out, HRS.out, List.getElem?_append_left (by simpa using hpl'), List.getElem?_map, List.getElem?_range hpl', hxk, hxb]
          rfl
        have hyy := HY.out G0' (fun k => k = b3 ∨ k ∈ Ds ∨ Bof b5 w8.heap.size w5.heap.size Gi k) (pre ++ pre'.map (cv pf)) ⟨pf + xk, xA, xc, xb⟩ Wp' W hgb hl.own hl.told hl.grown hl.fresh ⟨hat, hR⟩
        simp only [encA] at hyy
        obtain ⟨fn, tmps, assign, body, hy, hR2⟩ := hyy
        have hwk : wrap64 (pf + xk) = pf + xk := by
          have hb := HNB.out (by omega)
          have hp_ := HPF.out
          have hf_ := HF'.out
          exact w64o (by omega) (by omega)
        have c3 : W.cell? ⟨b3, 0, none⟩ = some (.func (.yield l₀) #[] #[]) := (blk_cell hl.box3 0).trans rfl
        have c5 : W.cell? ⟨b5, 1, none⟩ = some (.int .i64 pf) := (blk_cell h5 1).trans rfl
        have HGB := Aside0.mk hgb
        have HG := Aside0.mk hG
        have H5 := Aside0.mk h5
        clear hl h5 hpl' hxk hxb hR hlen hat hgb hG hI hz h1 h3
        gi_wp2
        refine ⟨fun h => (by cases h), (RoundIn.within hR2).mono ?_⟩
        have ecv : ∀ xs : List AX, pre ++ (xs ++ [(⟨xk, xA, xc, xb⟩ : AX)]).map (cv pf) = pre ++ xs.map (cv pf) ++ [⟨pf + xk, xA, xc, xb⟩] := fun xs => by simp [cv]
        have hsz8 : w.heap.size ≤ w8.heap.size := by have := HSB5.out; have := HSZ.out; omega
        rintro e W3 (⟨rfl, hJ3, hk3, hg3, hkf3⟩ | ⟨rfl, hJx3, hkf3⟩)
        · have R1 := Aside0.mk (KeepsFrom.up hkf3 hsz8)
          have R2 : Aside0 (KpD (fun k => w5.heap.size ≤ k ∧ k < w8.heap.size) W W3) := ⟨hk3.1, fun k hk => hg3 k (.inr (.inr (.inr (.inr (.inr (.inr hk))))))⟩
          have R3 : Aside0 (∀ k, Gi k → W3.heap[k]? = W.heap[k]?) := ⟨fun k hk => hg3 k (.inr (.inr (.inr (.inr (.inr (.inl hk))))))⟩
          have R4 : Aside0 (LiesC D J w00 w l₀ b3 (Bof b5 w8.heap.size w5.heap.size Gi) (pre ++ (pre' ++ [(⟨xk, xA, xc, xb⟩ : AX)]).map (cv pf)) Ds (fun k => k = b3 ∨ k ∈ Ds ∨ Bof b5 w8.heap.size w5.heap.size Gi k) W3 W3) := ⟨{
            box3 := (hg3 b3 (.inl rfl)).trans HL.out.box3
            told := by rw [ecv]; exact hJ3
            grown := GrownG.refl _ _
            own := fun k hk => (HGB.out k hk).1
            fresh := fun k hk => .inl hk
            kept := HL.out.kept.trans hk3
            wp := Nat.le_trans HL.out.size hk3.1
            low := HL.out.low
            nodup := HL.out.nodup
            marks := fun k hk => ⟨(HL.out.marks k hk).1, (hg3 k (.inr (.inl hk))).trans (HL.out.marks k hk).2⟩ }⟩
          have R5 := Aside0.mk ((hg3 b5 (.inr (.inr (.inl rfl)))).trans H5.out)
          clear hJ3 hk3 hg3 hkf3 hR2 hy ecv hsz8
          gi_wp2
          exact ⟨R1.out, ⟨R2.out, R3.out⟩, _, _, R4.out, R5.out⟩
        · have R1 := Aside0.mk (KeepsFrom.up hkf3 hsz8)
          have R2 : Aside0 (Jx (fun k => k = b3 ∨ k ∈ Ds ∨ Bof b5 w8.heap.size w5.heap.size Gi k) (pre ++ (pre' ++ [(⟨xk, xA, xc, xb⟩ : AX)]).map (cv pf)) W3) := ⟨by rw [ecv]; exact hJx3⟩
          have R3 : Aside0 (∀ k ∈ Ds, W3.heap[k]? = some (.deferred (some []))) := ⟨fun k hk => hkf3.same k _ (HL.out.marks k hk).1 (HL.out.marks k hk).2 rfl⟩
          clear hJx3 hkf3 hR2 hy ecv hsz8
          gi_wp2
          exact ⟨R1.out, rfl, R2.out, R3.out⟩
      case hdone =>
        rintro M Gi ys W9 hM hys ⟨G0', Wp', hl, h5⟩ hMd
        have h1 := HSB5.out
        have h3 := HSZ.out
        have HLM := Aside0.mk (hl.mark hMd (.inr (.inl hM)) (by omega) (fun hd => by have := h1.2.2.2 M (.inr hd); omega))
        have hwi : wrap64 ((i : Int) + 1) = (i : Int) + 1 := w64o (by omega) (by have := HIL.out; have := HSL.out; omega)
        have HYS := Aside0.mk (show ys.length = N from hys)
        clear hl h5 hMd hys hM h1 h3
        gi_wp2
        try go_wp2
        rw [hwi]
        have hlen : (pre ++ ys.map (cv pf)).length = pre.length + N := by have := HYS.out; simp; omega
        have hdr : all.drop (pre.length + N) = rest' := by
          rw [← List.drop_drop, HREST.out, HRS.out, List.drop_append_of_le_length (by simp), List.drop_of_length_le (by simp), List.nil_append]
        have hle : pre.length + N ≤ all.length := by
          have h1 := HPL.out
          have h2 := congrArg List.length HREST.out
          rw [HRS.out] at h2
          simp at h2
          omega
        refine ⟨⟨i + 1, pre ++ ys.map (cv pf), rest', M :: Ds, G0', Wp', rfl, ⟨by have := HIL.out; omega, HNX.out, by rw [hlen]; exact hdr, by rw [hlen]; exact hle⟩, HLM.out⟩, ?_⟩
        have := HIL.out
        show ((ss.length : Int) - ((i : Int) + 1)).toNat < ((ss.length : Int) - (i : Int)).toNat
        omega
      case hstop =>
        rintro M c Gi pre' W9 hM hGi hSp ⟨rfl, hjx, hmk⟩ hMd
        have h1 := HSB5.out
        have h3 := HSZ.out
        have h4 := LI8.out.low
        have h5 := LI8.out.marks
        have HJX9 := Aside0.mk hjx
        have HSP := Aside0.mk hSp
        have HND := Aside0.mk (show (M :: Ds).Nodup from List.nodup_cons.2 ⟨fun hd => by have := h1.2.2.2 M (.inr hd); omega, LI8.out.nodup⟩)
        have HMK := Aside0.mk (show ∀ k ∈ M :: Ds, W9.heap[k]? = some (.deferred (some [])) from fun k hk => by
          rcases List.mem_cons.1 hk with rfl | hk
          · exact hMd
          · exact hmk k hk)
        have hle : pre.length + N ≤ all.length := by
          have h1 := HPL.out
          have h2 := congrArg List.length HREST.out
          rw [HRS.out] at h2
          simp at h2
          omega
        have HLE := Aside0.mk hle
        have HMW := Aside0.mk hM
        have hown : ∀ k, (k = b3 ∨ k ∈ Ds ∨ Bof b5 w8.heap.size w5.heap.size Gi k) → w.heap.size ≤ k := fun k hk => by
          rcases hk with rfl | hk | hk | hk | hk | hk | hk
          · exact h4
          · exact (h5 k hk).1
          · omega
          · omega
          · omega
          · have := hGi k hk; omega
          · omega
        have HOWN := Aside0.mk hown
        clear hown hGi
        clear hjx hSp hmk hMd hM h1 h3 h4 h5 hle
        gi_wp2
        try refine noGoto_n ?_
        refine leaves_marks2 (M := fun k => k = b3 ∨ k ∈ Ds ∨ Bof b5 w8.heap.size w5.heap.size Gi k) (X := fun W => Jx (fun k => k = b3 ∨ k ∈ Ds ∨ Bof b5 w8.heap.size w5.heap.size Gi k) (pre ++ pre'.map (cv pf)) W) ?_ ?_ (M :: Ds) _ HND.out ?_ HJX9.out
        · exact fun W k hx hM2 _ => HJX.out _ _ _ _ _ hx HOWN.out (GrownG.put (G := fun k => k = b3 ∨ k ∈ Ds ∨ Bof b5 w8.heap.size w5.heap.size Gi k) hM2 _) (fun k h => .inl h)
        · exact fun W hx => ⟨_, results_none rfl _ _ _, ⟨_, rfl⟩, _, HOWN.out, .inr ⟨_, ⟨by have := HSP.out; simp; omega, by have := HSP.out; have := HLE.out; simp; omega⟩, hx⟩⟩
        · intro k hk
          refine ⟨?_, HMK.out k hk⟩
          rcases List.mem_cons.1 hk with rfl | hk
          · exact .inr (.inr (.inr (.inl HMW.out)))
          · exact .inr (.inl hk)
  · have cd1 : decide ((i : Int) < (ss.length : Int)) = false := decide_eq_false (by omega)
    have cd2 : decide (i < ss.length) = false := decide_eq_false hil
    rw [List.drop_of_length_le (by omega)] at hcf
    have hcf : rest = [] := hcf
    have hfin : pre.length = all.length := by
      have := HREST.out
      rw [hcf] at this
      have := List.drop_eq_nil_iff.1 this
      have := HPL.out
      omega
    have HFIN := Aside0.mk hfin
    clear hi hil hcf hfin
    go_wp2
    refine noGoto_n ?_
    have hgl : ∀ k, (k = b3 ∨ k ∈ Ds) → w.heap.size ≤ k := fun k hk => by
      rcases hk with rfl | hk
      · exact LI.out.low
      · exact (LI.out.marks k hk).1
    refine leaves_marks2 (M := fun k => k = b3 ∨ k ∈ Ds) (X := fun W => J (fun k => k = b3 ∨ k ∈ Ds) pre W) ?_ ?_ Ds _ LI.out.nodup ?_ (HJ.out _ _ _ _ _ LI.out.told LI.out.own LI.out.grown (fun k hk => LI.out.fresh k (by rcases hk with hk | hk; exact .inl hk; exact .inr (.inl hk))))
    · exact fun W k hx hM _ => HJ.out _ _ _ _ _ hx hgl (GrownG.put (G := fun k => k = b3 ∨ k ∈ Ds) hM _) (fun k h => .inl h)
    · exact fun W hx => ⟨_, results_none rfl _ _ _, ⟨_, rfl⟩, (fun k => k = b3 ∨ k ∈ Ds), hgl, .inl ⟨_, HFIN.out, hx⟩⟩
    · exact fun k hk => ⟨.inr hk, (LI.out.marks k hk).2⟩
end Go.Proofs.Ytoljcfocgaonpaa.I
end
section
namespace Go.Proofs.Ytoljcfocgaonpaa.I
open Go.RowKit Go.Shelf Go.Proofs.YtoljcfocgaonpaaW.PrintWords Go.Proofs.YtoljcfocgaonpaaW.PrintLast Go.Proofs.YtoljcfocgaonpaaW.PrintMore
set_option linter.unusedVariables false
set_option linter.unusedSimpArgs false
section
open Go.Sort
theorem sortShapeR.closure (x y : SE) (W : World) : Calls Try.prog 128 #[.agg (sortShape.enc x).toArray, .agg (sortShape.enc y).toArray] W fun e w' => e = .returned (.int .i64 (Lib.compareInt x.1.f1 y.1.f1)) ∧ ∃ q os', w' = Go.Sort.grow (W.drewN q) os' := by
  have hcon := fun W' => AnyG.cmp_Compare_int Try.cmpInt x.1.f1 y.1.f1 W'
  change ∀ W', Calls Try.prog 89 _ _ _ at hcon
  show Calls Try.prog 128 #[.agg #[.slice x.2.1 x.1.f0.length x.2.2, .int .i64 x.1.f1], .agg #[.slice y.2.1 y.1.f0.length y.2.2, .int .i64 y.1.f1]] W _
  generalize Lib.compareInt x.1.f1 y.1.f1 = r at hcon ⊢
  generalize x.1.f0.length = n1
  generalize y.1.f0.length = n2
  go_enter Try.func128, Try.ntmps128
  go_wp2_with (go_at_call 89; refine (hcon _).mono ?_; rintro e w' ⟨rfl, rfl⟩)
  go_ret
  exact ⟨rfl, 0, _, by rw [Go.Sort.alloc_eq_grow, Go.Sort.alloc_eq_grow, Go.Sort.grow_grow]; rfl⟩
theorem sortShapeR.calls {ok : Nat → Prop} (u9000_ : Value) (l0 : List S47) (r : List S47) (w0 w : World) (hB : Below w0.heap.size w0 w) (ho0 : Kd.N k47 47 w w0.heap.size ok u9000_ l0) (h : sortShape.f l0 = some r) :
    Calls Try.prog 87 #[u9000_, .func (.func 128) #[] #[]] w fun e w' => e = .returned (.tuple #[]) ∧ Kd.N k47 47 w' w0.heap.size ok u9000_ r ∧ Below w0.heap.size w0 w' ∧ Kept w w' (fun k_ => some k_ = u9000_.ownBlock) := by
  have hk : ∀ x : SE, (sortShape.enc x).length = 2 := fun _ => rfl
  have hcell : ∀ x : SE, ∀ v ∈ sortShape.enc x, v.oneCell' = true := fun x v hv => by simp [sortShape.enc] at hv; rcases hv with rfl | rfl <;> rfl
  have hsm := (sortShape.merge h).1
  obtain ⟨hok0, rows, hl, hR, hf⟩ := ho0
  obtain ⟨d, d1, d2, d3⟩ := sortShape.pairs l0 rows hl hf
  obtain ⟨_, inner, ho, hr⟩ := hR
  have hdl : d.length = l0.length := by rw [← d1, List.length_map]
  have ho' : w.ownsRow w0.heap.size 47 2 u9000_ l0.length inner := by rw [← hl]; exact ho
  have hr' : Reps (fun (x : SE) cs => cs = sortShape.enc x) 2 d inner := ⟨by have := hr.1; rw [d2, List.length_map] at this; exact this, fun j x hx => (hr.2 j (sortShape.enc x) (by rw [d2, List.getElem?_map, hx]; rfl)).1⟩
  have hflat := SortW.flat_of_reps (fun _ _ e => e) hk hr'
  have hpm := sortShape.spec d
  have his := sortShape.is h d d1
  rcases ho'.2 with ⟨hu, hn⟩ | ⟨g, cap, cur, hu, hg, hh, _, hcap, _⟩
  · obtain rfl : l0 = [] := List.eq_nil_of_length_eq_zero hn
    obtain rfl : r = [] := List.eq_nil_of_length_eq_zero (by have := (sortShape.merge h).2.1.length_eq; simpa using this)
    subst hu
    refine (AnyF.slices_SortFunc_none Try.sortShapeL none 0 (.func (.func 128) #[] #[]) w).mono ?_
    rintro e w' ⟨rfl, rfl⟩
    exact ⟨rfl, Kd.N_nil _ _ _ _ _, hB, Kept.refl _ _⟩
  · subst hu
    have hH := SortW.holds_of_own ho' hdl.symm hflat
    have hlt : g < w.heap.size := (Array.getElem?_eq_some_iff.1 hh).1
    have hsz : d.toArray.size < 4611686018427387904 := by rw [List.size_toArray]; omega
    have hcon := AnyQ.slices_SortFunc_eq Try.sortShapeL 2 Try.isAgg47 Try.sizeOf47 sortShape.enc hk hcell (fun x y : SE => Lib.compareInt x.1.f1 y.1.f1) sortShape.swo 128 #[] g 0 cap d.toArray w
      (enters_of Try.func128 (by kernel_rfl) rfl) (fun _ _ _ _ x y => sortShapeR.closure x y _) hH hlt hsz
    refine (show Calls Try.prog 87 #[.slice (some ⟨g, 0, none⟩) l0.length cap, .func (.func 128) #[] #[]] w _ from by rw [← hdl]; exact hcon).mono ?_
    rintro e w' ⟨rfl, n, os, rfl⟩
    generalize Go.Sort.pdq (ltOf fun x y : SE => Lib.compareInt x.1.f1 y.1.f1) d.toArray 0 d.toArray.size (Lib.bitLen d.toArray.size) true true = q at hpm his ⊢
    have hds : q.size = l0.length := by rw [← hdl]; simpa using hpm.1.length_eq
    have hql : q.toList.length = l0.length := by simpa using hds
    have hrl : r.length = l0.length := by rw [← his, List.length_map]; exact hql
    have hflat' := SortW.reps_of_flat (R := fun (x : SE) cs => cs = sortShape.enc x) (enc := sortShape.enc) (k := 2) (fun _ => rfl) hk q.toList
    refine ⟨rfl, ⟨hok0, q.toList.map sortShape.enc, by rw [List.length_map, hql, hrl], ⟨fun k hk => hk.symm, (Go.Sort.flatK sortShape.enc 2 q).toList, ?_, ⟨by have := hflat'.1; rw [List.length_map]; exact this, fun j p hp => ?_⟩⟩, fun j x c hx hc => ?_⟩, SortW.below_sorted hB hB.size sortShape.enc 2 g n hg q os, SortW.kept_sorted w sortShape.enc 2 g n q os _ rfl⟩
    · have := SortW.own_sorted (enc := sortShape.enc) ho' n q os hds
      rw [List.length_map, hql]
      exact this
    · rw [List.getElem?_map] at hp
      obtain ⟨x, hx, rfl⟩ := Option.map_eq_some_iff.1 hp
      have e : List.take (Kd.raw k47.sz).sz (List.drop (j * (Kd.raw k47.sz).sz) (Go.Sort.flatK sortShape.enc 2 q).toList) = sortShape.enc x := hflat'.2 j x hx
      rw [e]
      exact ⟨rfl, rfl, hcell x⟩
    · rw [← his, List.getElem?_map] at hx
      obtain ⟨z, hz, rfl⟩ := Option.map_eq_some_iff.1 hx
      rw [List.getElem?_map, hz] at hc
      obtain rfl := Option.some.inj hc
      have hzd : z ∈ d := hpm.1.subset (List.mem_of_getElem? hz)
      exact Kd.FK_step (d3 z hzd) (fun k hk hlt' => SortW.heap_sorted_other sortShape.enc 2 w g n q os k hlt' (fun e => hk.2 (by rw [e]; rfl)))
end
def code_rising.f (k : Nat) (ss : List S47) : Option (List S47) := (scheme_Valid.f k ss).bind fun v => if v = true then (scheme_Copy.f k ss).bind fun c => sortShape.f c else some []
set_option maxHeartbeats 4000000 in
set_option maxRecDepth 100000 in
theorem code_rising.calls (k : Nat) (A0 : Option Addr) (c0 : Nat) (ss r : List S47) (w : World) (hC : Kd.C k47 w A0 ss.length ss) (hc : ss.length ≤ c0) (h : code_rising.f k ss = some r) :
    Calls Try.prog 91 #[.agg #[.slice A0 ss.length c0]] w fun e w' => ∃ v, e = .returned v ∧ Kd.N k47 47 w' w.heap.size (fun k => w.heap.size ≤ k) v r ∧ Below w.heap.size w w' := by
  have hu67 := Try.underlying67
  have hu69 := Try.underlying69
  have hf69 := run_field69
  unfold code_rising.f at h
  obtain ⟨v, hv, h⟩ := Option.bind_eq_some_iff.1 h
  have HC := Aside0.mk hC
  have HCC := Aside0.mk hc
  have HV := Aside0.mk hv
  have hb1 : Below w.heap.size w (w.alloc (.cells #[.slice A0 ss.length c0] 69)) := (Below.refl _ w).alloc (Nat.le_refl _) _
  have BK := Aside0.mk (blk_new w (.cells #[.slice A0 ss.length c0] 69))
  have HB := Aside0.mk hb1
  clear hC hc hv hb1
  cases v with
  | false =>
    have hr : r = [] := by simpa using h.symm
    subst hr
    clear h
    go_enter Try.func91, Try.ntmps91
    go_wp2_with (first | (go_at_call 85; refine (scheme_Valid.calls k A0 c0 ss false _ (Kd.C_below HC.out HB.out) HCC.out HV.out).mono ?_; rintro e w1 ⟨rfl, hb⟩; have n0_ := Aside0.mk (below_step HB.out hb); clear HB hb; have HB := n0_; clear n0_))
    go_ret
    exact ⟨_, rfl, Kd.N_nil _ _ _ _ _, HB.out⟩
  | true =>
    rw [if_pos rfl] at h
    obtain ⟨cp, hcp, hs⟩ := Option.bind_eq_some_iff.1 h
    have HCP := Aside0.mk hcp
    have HS := Aside0.mk hs
    clear h hcp hs
    go_enter Try.func91, Try.ntmps91
    go_wp2_with (first
      | (go_at_call 85; refine (scheme_Valid.calls k A0 c0 ss true _ (Kd.C_below HC.out HB.out) HCC.out HV.out).mono ?_; rintro e w1 ⟨rfl, hb⟩; have n0_ := Aside0.mk (below_step HB.out hb); have n1_ := Aside0.mk (blk_below BK.out hb); clear HB BK hb; have HB := n0_; have BK := n1_; clear n0_ n1_; have hcz0 : w1.cell? ⟨w.heap.size, 0, none⟩ = some (.slice A0 ss.length c0) := (blk_cell BK.out 0).trans rfl)
      | (go_at_call 72; refine (scheme_Copy.calls k A0 c0 ss cp _ (Kd.C_below HC.out HB.out) HCC.out HCP.out).mono ?_; rintro e w2 ⟨v2, rfl, ho, hb⟩; have HO := Aside0.mk (Kd.N_mono (Kd.R_N (Kd.R_lower (Kd.R_bound ho) HB.out.size)) (ok' := fun k => w.heap.size ≤ k) (fun k hk => Nat.le_trans HB.out.size hk.2.1)); have n0_ := Aside0.mk (below_step HB.out hb); clear HB hb ho; have HB := n0_; clear n0_)
      | (go_at_call 87; refine (sortShapeR.calls v2 cp r w _ HB.out HO.out HS.out).mono ?_; rintro e w3 ⟨rfl, ho, hb, _⟩; have HO3 := Aside0.mk ho; clear HB ho; have HB := Aside0.mk hb; clear hb))
    go_ret
    exact ⟨_, rfl, HO3.out, HB.out⟩
set_option maxHeartbeats 4000000 in
set_option maxRecDepth 100000 in
theorem code_All.calls (k : Nat) (A0 : Option Addr) (c0 : Nat) (ss r : List S47) (fr : Int) (w : World) (hC : Kd.C k47 w A0 ss.length ss) (hc : ss.length ≤ c0) (h : code_rising.f k ss = some r) :
    Calls Try.prog 41 #[.agg #[.slice A0 ss.length c0], .int .i64 fr] w fun e w' => ∃ gl gf A c, e = .returned (.func (.func 92) #[] #[.pointer (some ⟨gl, 0, none⟩), .pointer (some ⟨gf, 0, none⟩)]) ∧
      (∀ W', KpD (fun k => w.heap.size ≤ k ∧ k < w'.heap.size) w' W' → W'.heap[gl]? = some (.cells #[.slice A r.length c] 67 (0, 0)) ∧ W'.heap[gf]? = some (.cells #[.int .i64 fr] 3 (0, 0)) ∧ Kd.C k47 W' A r.length r) ∧ Below w.heap.size w w' := by
  have hu67 := Try.underlying67
  have hu69 := Try.underlying69
  have HC := Aside0.mk hC
  have HCC := Aside0.mk hc
  have HH := Aside0.mk h
  have hb1 : Below w.heap.size w ((w.alloc (.cells #[.slice A0 ss.length c0] 69)).alloc (.cells #[.int .i64 fr] 3)) := ((Below.refl _ w).alloc (Nat.le_refl _) _).alloc (by simp) _
  have HB := Aside0.mk hb1
  have BF := Aside0.mk (blk_new2 w (.cells #[.slice A0 ss.length c0] 69) (.cells #[.int .i64 fr] 3))
  clear hC hc h hb1
  go_enter Try.func41, Try.ntmps41
  go_wp2_with (first
    | (go_at_call 91; refine (code_rising.calls k A0 c0 ss r _ (Kd.C_below HC.out HB.out) HCC.out HH.out).mono ?_; rintro e w1 ⟨v, rfl, ho, hb⟩; obtain ⟨Ao, co, eo⟩ := Kd.N_slice ho; subst eo; have HO := Aside0.mk ho; have HB1 := Aside0.mk hb; clear ho hb))
  go_ret
  have hb2 : Below w1.heap.size w1 (w1.alloc (.cells #[.slice Ao r.length co] 67)) := (Below.refl _ w1).alloc (Nat.le_refl _) _
  have hs0 : w.heap.size ≤ ((w.alloc (.cells #[.slice A0 ss.length c0] 69)).alloc (.cells #[.int .i64 fr] 3)).heap.size := HB.out.size
  refine ⟨w1.heap.size, w.heap.size + 1, Ao, co, rfl, fun W' hk => ?_, below_step (below_step HB.out HB1.out) hb2⟩
  have hs1 := HB1.out.size
  have hl := blk_lt (blk_new w1 (.cells #[.slice Ao r.length co] 67))
  have hf := blk_below (blk_below BF.out HB1.out) hb2
  have ho2 := Kd.N_below (Kd.N_bound HO.out) hb2
  refine ⟨(hk.2 w1.heap.size ⟨by omega, hl⟩).trans (blk_new w1 _), (hk.2 (w.heap.size + 1) ⟨by omega, blk_lt hf⟩).trans hf, ?_⟩
  exact (Kd.N_reads' (Kd.N_step ho2 (w1 := W') (fun k h1 h2 => hk.2 k ⟨Nat.le_trans hs0 h1.1, h2⟩))).2.2
theorem cod_seq (n : Nat) (hn : 4 ≤ n) {k gl gf : Nat} {A : Option Addr} {c : Nat} {ss : List S47} {fr : Int} {all : List (Int × List Int)} (hF : CodF k fr ss all) {D : Nat → Prop} {w0 : World} (hDw : ∀ k, D k → k < w0.heap.size) (hfr : fr ≤ 9223372036854775807) (hsl : ss.length ≤ 4611686018427387904)
    (hD : ∀ W', KpD D w0 W' → W'.heap[gl]? = some (.cells #[.slice A ss.length c] 67 (0, 0)) ∧ W'.heap[gf]? = some (.cells #[.int .i64 fr] 3 (0, 0)) ∧ Kd.C k47 W' A ss.length ss) :
    SeqH Fence.wide n Try.prog 92 #[.pointer (some ⟨gl, 0, none⟩), .pointer (some ⟨gf, 0, none⟩)] encA (RdC all) (KpD D) (fun xs => xs.length = all.length) (fun pre => 1 ≤ pre.length ∧ pre.length ≤ all.length) w0 :=
  fun l₀ J Jx W hW hJ hJx h0 hY => cod1_in n l₀ hn k gl gf A c ss fr all D w0 W hW hDw hD hfr hsl hF J Jx hJ hJx h0 hY
end Go.Proofs.Ytoljcfocgaonpaa.I
end
section
namespace Go.Proofs.Ytoljcfocgaonpaa.I
open Go.RowKit Go.Shelf Go.Proofs.YtoljcfocgaonpaaW.PrintWords Go.Proofs.YtoljcfocgaonpaaW.PrintLast Go.Proofs.YtoljcfocgaonpaaW.PrintMore
set_option linter.unusedVariables false
set_option linter.unusedSimpArgs false
attribute [local go_sem] Oper.semAt_some
def EnvO (W : World) (b g bl bn br : Nat) (A : Option Addr) (m c : Nat) (res : Bool) (y : Bool) (y2 y3 : Int) (l : List Int) (nI : Int) (q : Bool) : Prop :=
  W.heap[b]? = some (.cells #[.slice A m c] 69 (0, 0)) ∧ W.heap[b + 1]? = some (.cells #[.bool res] 4 (0, 0)) ∧ W.heap[g]? = some (.cells #[.bool y, .int .i64 y2, .int .i64 y3] 71 (0, 0)) ∧ W.heap[bl]? = some (.cells #[.string (strOfNums l)] 9 (0, 0)) ∧ W.heap[bn]? = some (.cells #[.int .i64 nI] 3 (0, 0)) ∧ W.heap[br]? = some (.cells #[.bool q] 4 (0, 0))
theorem EnvO.below {W W' : World} {b g bl bn br : Nat} {A : Option Addr} {m c : Nat} {res y : Bool} {y2 y3 : Int} {l : List Int} {nI : Int} {q : Bool} (h : EnvO W b g bl bn br A m c res y y2 y3 l nI q) (hb : Below W.heap.size W W') : EnvO W' b g bl bn br A m c res y y2 y3 l nI q :=
  ⟨blk_below h.1 hb, blk_below h.2.1 hb, blk_below h.2.2.1 hb, blk_below h.2.2.2.1 hb, blk_below h.2.2.2.2.1 hb, blk_below h.2.2.2.2.2 hb⟩
theorem EnvO.cells {W : World} {b g bl bn br : Nat} {A : Option Addr} {m c : Nat} {res y : Bool} {y2 y3 : Int} {l : List Int} {nI : Int} {q : Bool} (h : EnvO W b g bl bn br A m c res y y2 y3 l nI q) : W.cell? ⟨b + 1, 0, none⟩ = some (.bool res) ∧ W.cell? ⟨g, 0, none⟩ = some (.bool y) ∧ W.cell? ⟨bl, 0, none⟩ = some (.string (strOfNums l)) ∧ W.cell? ⟨bn, 0, none⟩ = some (.int .i64 nI) ∧ W.cell? ⟨br, 0, none⟩ = some (.bool q) ∧ W.frozen? ⟨b + 1, 0, none⟩ = false ∧ W.frozen? ⟨bl, 0, none⟩ = false ∧ W.frozen? ⟨bn, 0, none⟩ = false ∧ W.frozen? ⟨br, 0, none⟩ = false :=
  ⟨(blk_cell h.2.1 0).trans rfl, (blk_cell h.2.2.1 0).trans rfl, (blk_cell h.2.2.2.1 0).trans rfl, (blk_cell h.2.2.2.2.1 0).trans rfl, (blk_cell h.2.2.2.2.2 0).trans rfl, blk_frozen h.2.1 0, blk_frozen h.2.2.2.1 0, blk_frozen h.2.2.2.2.1 0, blk_frozen h.2.2.2.2.2 0⟩
theorem EnvO.moved {W W' : World} {b g bl bn br : Nat} {A : Option Addr} {m c : Nat} {res y : Bool} {y2 y3 : Int} {l : List Int} {nI : Int} {q : Bool} (h : EnvO W b g bl bn br A m c res y y2 y3 l nI q) (hk : ∀ k o, W.heap[k]? = some o → k ≤ b + 1 ∨ k = g ∨ k = bl ∨ k = bn ∨ k = br → W'.heap[k]? = W.heap[k]?) : EnvO W' b g bl bn br A m c res y y2 y3 l nI q :=
  ⟨(hk _ _ h.1 (by omega)).trans h.1, (hk _ _ h.2.1 (by omega)).trans h.2.1, (hk _ _ h.2.2.1 (by omega)).trans h.2.2.1, (hk _ _ h.2.2.2.1 (by omega)).trans h.2.2.2.1, (hk _ _ h.2.2.2.2.1 (by omega)).trans h.2.2.2.2.1, (hk _ _ h.2.2.2.2.2 (by omega)).trans h.2.2.2.2.2⟩
theorem EnvO.step {W : World} {b g bl bn br : Nat} {A : Option Addr} {m c : Nat} {res y : Bool} {y2 y3 : Int} {l : List Int} {nI : Int} {q : Bool} (h : EnvO W b g bl bn br A m c res y y2 y3 l nI q) (h1 : b + 1 < g ∧ g < bl ∧ bl < bn ∧ bn < br) (l' : List Int) (n' : Int) (q' : Bool) : EnvO (((W.setCell ⟨br, 0, none⟩ (.bool q')).setCell ⟨bl, 0, none⟩ (.string (strOfNums l'))).setCell ⟨bn, 0, none⟩ (.int .i64 n')) b g bl bn br A m c res y y2 y3 l' n' q' :=
  ⟨blk_set_far (blk_set_far (blk_set_far h.1 (by omega) _) (by omega) _) (by omega) _, blk_set_far (blk_set_far (blk_set_far h.2.1 (by omega) _) (by omega) _) (by omega) _, blk_set_far (blk_set_far (blk_set_far h.2.2.1 (by omega) _) (by omega) _) (by omega) _, blk_set_far (blk_set (blk_set_far h.2.2.2.1 (by omega) _) _) (by omega) _, blk_set (blk_set_far (blk_set_far h.2.2.2.2.1 (by omega) _) (by omega) _) _, blk_set_far (blk_set_far (blk_set h.2.2.2.2.2 _) (by omega) _) (by omega) _⟩
theorem EnvO.told {W : World} {b g bl bn br : Nat} {A : Option Addr} {m c : Nat} {res y : Bool} {y2 y3 : Int} {l : List Int} {nI : Int} {q : Bool} (h : EnvO W b g bl bn br A m c res y y2 y3 l nI q) (h1 : b + 1 < g ∧ g < bl ∧ bl < bn ∧ bn < br) (v : Bool) : EnvO (W.setCell ⟨b + 1, 0, none⟩ (.bool v)) b g bl bn br A m c v y y2 y3 l nI q :=
  ⟨blk_set_far h.1 (by omega) _, blk_set h.2.1 _, blk_set_far h.2.2.1 (by omega) _, blk_set_far h.2.2.2.1 (by omega) _, blk_set_far h.2.2.2.2.1 (by omega) _, blk_set_far h.2.2.2.2.2 (by omega) _⟩
theorem CB_stay {A B : World} {ik : IntKind} {row : Option Nat} {Ad : Option Addr} {n : Nat} {l : List Int} (h : Kd.C (Kd.int ik) A Ad n l) (hg : A.grownBy B row) (hr : ∀ r, row = some r → ∃ o : Obj, A.heap[r]? = some o ∧ o.isCells = false) : Kd.C (Kd.int ik) B Ad n l :=
  ⟨h.1, h.2.1, fun hn => by
    obtain ⟨ad, e, hc⟩ := h.2.2 hn
    exact ⟨ad, e, fun j p hj => by
      obtain ⟨c, hs, hk, hcell⟩ := hc j p hj
      exact ⟨c, hs, hk, fun i u hu => cell_kept (hcell i u hu) hg hr⟩⟩⟩
set_option maxRecDepth 100000 in
set_option maxHeartbeats 8000000 in
theorem lawOAll.not (k : Nat) (A0 : Option Addr) (c0 : Nat) (ss : List S47) (r2 r3 r4 : Int) (w : World) (hr0 : Kd.C k47 w A0 ss.length ss) (hc0 : ss.length ≤ c0) (hne : r4 ≠ 0)
    (hfix : leadtraillaw12_fixed.f k = some true) (hck : order_Check.f k ss = some (false, r2, r3, r4)) :
    Calls Try.prog 8 #[.agg #[.slice A0 ss.length c0]] w fun e w' => e = .returned (.bool true) ∧ Below w.heap.size w w' := by
  have hu69 := Try.underlying69
  have hu71 := Try.underlying71
  have HR := Aside0.mk hr0
  have HC := Aside0.mk hc0
  have HFIX := Aside0.mk hfix
  have HCK := Aside0.mk hck
  have d0 : (r4 != 0) = true := by simpa using hne
  clear hr0 hc0 hfix hck hne
  have B0 := Aside0.mk (blk_alloc (blk_new w (.cells #[.slice A0 ss.length c0] 69)) (.cells #[.bool false] 4))
  have B1 := Aside0.mk (blk_new2 w (.cells #[.slice A0 ss.length c0] 69) (.cells #[.bool false] 4))
  have HB := Aside0.mk (below_alloc (below_alloc (Below.refl w.heap.size w) (.cells #[.slice A0 ss.length c0] 69)) (.cells #[.bool false] 4))
  refine (callsIn_wide (n := 6)).1 ?_
  refine callsIn_of_wp Try.func8 rfl trivial ?_
  simp only [Try.ntmps8, List.size_toArray, List.length_cons, List.length_nil, Nat.reduceAdd, Nat.reduceSub, Array.replicate_succ, Array.replicate_zero, List.push_toArray, List.append_toArray, List.nil_append, List.cons_append]
  refine wpIn_wide.2 ?_
  go_wp2_with (first
    | (go_at_call 39; (first | refine (leadtraillaw12_fixed.calls k true _ HFIX.out rfl).mono ?_ | refine (leadtraillaw12_fixed.calls k true _ HFIX.out).mono ?_); rintro e w1 ⟨rfl, hb⟩; have n0_ := Aside0.mk (blk_below B0.out hb); have n1_ := Aside0.mk (blk_below B1.out hb); have n3_ := Aside0.mk (below_step HB.out hb); clear B0 B1 HB hb; have B0 := n0_; have B1 := n1_; have HB := n3_; clear n0_ n1_ n3_; have hq0 : w1.cell? ⟨w.heap.size, 0, none⟩ = some (.slice A0 ss.length c0) := (blk_cell B0.out 0).trans rfl)
    | (go_at_call 40; refine (order_Check.calls k A0 c0 ss false r2 r3 r4 _ (Kd.C_below HR.out HB.out) HC.out HCK.out).mono ?_; rintro e w2 ⟨rfl, hb⟩; clear hq0; have n0_ := Aside0.mk (blk_below B0.out hb); have n1_ := Aside0.mk (blk_below B1.out hb); have n3_ := Aside0.mk (below_step HB.out hb); clear B0 B1 HB hb; have B0 := n0_; have B1 := n1_; have HB := n3_; clear n0_ n1_ n3_; have hq1 := (blk_cell (blk_alloc B1.out (.cells #[.bool false, .int .i64 r2, .int .i64 r3] 71)) 0).trans rfl; have hq2 := blk_frozen (blk_alloc B1.out (.cells #[.bool false, .int .i64 r2, .int .i64 r3] 71)) 0))
  have hc9 := World.cell?_setCell_same' (w2.alloc (.cells #[.bool false, .int .i64 r2, .int .i64 r3] 71)) ⟨w.heap.size + 1, 0, none⟩ (.bool true) (by rw [hq1]; rfl)
  exact ⟨rfl, .bool true, by simp [results, Try.f8, go_sem, hc9], rfl, (below_alloc HB.out _).setCell (p := ⟨w.heap.size + 1, 0, none⟩) (by show w.heap.size ≤ w.heap.size + 1; omega) _⟩
end Go.Proofs.Ytoljcfocgaonpaa.I
end
