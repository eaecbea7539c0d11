/- Words and laws of this claim, of 4 texts. -/
import Derived.Test.YtoljcfocgaonpaaGreatKaIx0
import Derived.Test.YtoljcfocgaonpaaGreatKaIx1
import Derived.Test.YtoljcfocgaonpaaGreatKaIx10
import Derived.Test.YtoljcfocgaonpaaGreatKaIx11
import Derived.Test.YtoljcfocgaonpaaGreatKaIx12
import Derived.Test.YtoljcfocgaonpaaGreatKaIx13
import Derived.Test.YtoljcfocgaonpaaGreatKaIx14
import Derived.Test.YtoljcfocgaonpaaGreatKaIx15
import Derived.Test.YtoljcfocgaonpaaGreatKaIx16
import Derived.Test.YtoljcfocgaonpaaGreatKaIx17
import Derived.Test.YtoljcfocgaonpaaGreatKaIx18
import Derived.Test.YtoljcfocgaonpaaGreatKaIx19
import Derived.Test.YtoljcfocgaonpaaGreatKaIx2
import Derived.Test.YtoljcfocgaonpaaGreatKaIx20
import Derived.Test.YtoljcfocgaonpaaGreatKaIx21
import Derived.Test.YtoljcfocgaonpaaGreatKaIx3
import Derived.Test.YtoljcfocgaonpaaGreatKaIx4
import Derived.Test.YtoljcfocgaonpaaGreatKaIx5
import Derived.Test.YtoljcfocgaonpaaGreatKaIx6
import Derived.Test.YtoljcfocgaonpaaGreatKaIx7
import Derived.Test.YtoljcfocgaonpaaGreatKaIx8
import Derived.Test.YtoljcfocgaonpaaGreatKaIx9
import Derived.Test.YtoljcfocgaonpaaGreatKaQP0
import Derived.RangeFuncNested
import Derived.RangeFuncBound
import Derived.RangeFuncCalls
import Derived.RangeFuncLeaves
import Derived.Shelf.Abstract
import Derived.Shelf.RegionOpen
import Derived.WalkKit
import Derived.OwnWalkIn
import Derived.TacticsInMore
import Derived.LoopNIn
import Derived.LoopIn
import Derived.Test.YtoljcfocgaonpaaGreatKaQW1
section
namespace Go.Proofs.I
open Go.RowKit Go.Shelf Go.Proofs.Zw.PrintWords Go.Proofs.Zw.PrintLast Go.Proofs.Zw.PrintMore
set_option linter.unusedVariables false
set_option linter.unusedSimpArgs false
attribute [local go_sem] Oper.semAt_some
attribute [local go_sem] Vn El Dd Dr
set_option maxHeartbeats 8000000 in
set_option maxRecDepth 100000 in
theorem cod1_in (n l₀ : Nat) (hn : 4 ≤ n) (k gl gf : Nat) (A : Option Addr) (c : Nat) (ss : List S44) (fr : Int) (all : List (Int × List Int)) (D : Nat → Prop)
    (w00 w : World) (hW : Below w00.heap.size w00 w) (hDw : ∀ k, D k → k < w00.heap.size)
    (hD : ∀ W', KpD D w00 W' → W'.heap[gl]? = some (.cells #[.slice A ss.length c] 22 (0, 0)) ∧ W'.heap[gf]? = some (.cells #[.int .i64 fr] 3 (0, 0)) ∧ Kd.C k44 W' A ss.length ss)
    (hfr : fr ≤ 9223372036854775807) (hsl : ss.length ≤ 4611686018427387904) (hF : CodF k fr ss all)
    (J Jx : (Nat → Prop) → List AX → World → Prop) (hJ : It w.heap.size J) (hJx : It w.heap.size Jx) (h0 : J (fun _ => False) [] w)
    (hY : ∀ G0 G pre x Wp W1, (∀ k, G k → w.heap.size ≤ k ∧ k < W1.heap.size) → (∀ k, G0 k → w.heap.size ≤ k) → J G0 pre Wp → Dt G0 Wp W1 → (∀ k, G k → G0 k ∨ Wp.heap.size ≤ k) → RdC all G pre x Wp W1 → YieldAt Fence.wide (n - 1) Tryz.prog l₀ (encA x) W1 fun e W' => (e = .returned (.bool true) ∧ J G (pre ++ [x]) W' ∧ KpD D W1 W' ∧ (∀ k, G k → W'.heap[k]? = W1.heap[k]?) ∧ KeepsFrom w.heap.size W1 W') ∨ (e = .returned (.bool false) ∧ Jx G (pre ++ [x]) W' ∧ KeepsFrom w.heap.size W1 W')) :
    CallsIn Fence.wide n Tryz.prog 39 #[.func (.yield l₀) #[] #[], .pointer (some ⟨gl, 0, none⟩), .pointer (some ⟨gf, 0, none⟩)] w fun e W' => (∃ v, e = .returned v) ∧ ∃ G : Nat → Prop, (∀ k, G k → w.heap.size ≤ k) ∧ ((∃ xs, xs.length = all.length ∧ J G xs W') ∨ (∃ pre, (1 ≤ pre.length ∧ pre.length ≤ all.length) ∧ Jx G pre W')) := by
  have hu44 := Tryz.underlying44
  have HN := Aa.mk hn
  have hDw2 : ∀ k, D k → k < w.heap.size := fun k hk => Nat.lt_of_lt_of_le (hDw k hk) hW.size
  have HDW := Aa.mk hDw2
  have HD := Aa.mk hD
  have HFR := Aa.mk hfr
  have HSL := Aa.mk hsl
  have HF := Aa.mk hF
  have HJ := Aa.mk hJ
  have HJX := Aa.mk hJx
  have HY := Aa.mk hY
  have HK0 := Aa.mk (show KpD D w00 w from ⟨hW.size, fun k hk => hW.block k (hDw k hk)⟩)
  obtain ⟨hgl, hgf, _⟩ := hD w HK0.out
  have hb1 : Below w.heap.size w (w.alloc (.cells #[.func (.yield l₀) #[] #[]] 73)) := (Below.refl _ w).alloc (Nat.le_refl _) _
  have hLies : Gc D J w00 w l₀ w.heap.size (fun _ => False) [] [] (fun _ => False) w (w.alloc (.cells #[.func (.yield l₀) #[] #[]] 73)) := {
    box3 := Fl w _
    told := h0
    grown := Dt.of_below hb1
    own := fun _ h => h.elim
    fresh := fun k hk => by
      rcases hk with rfl | hk | hk
      · exact .inr (Nat.le_refl _)
      · cases hk
      · exact hk.elim
    kept := KpD.below HK0.out hDw2 hb1
    wp := Nat.le_refl _
    low := Nat.le_refl _
    nodup := .nil
    marks := by simp }
  have hq0 : (w.alloc (.cells #[.func (.yield l₀) #[] #[]] 73)).cell? ⟨gl, 0, none⟩ = some (.slice A ss.length c) := (Ag (Ce hgl hb1) 0).trans rfl
  have LI0 := Aa.mk hLies
  clear hn hDw hDw2 hD hfr hsl hF hJ hJx hY hW h0 hLies hb1 hgl hgf
  refine callsIn_of_wp_marks Tryz.func39 rfl trivial ?_
  simp only [Tryz.ntmps39, List.size_toArray, List.length_cons, List.length_nil, Nat.reduceAdd, Nat.reduceSub, Array.replicate_succ, Array.replicate_zero, List.push_toArray, List.append_toArray, List.nil_append, List.cons_append]
  refine wpIn_wide.2 ?_
  go_wp2
  refine wp_scope_straight ?_
  go_wp2
  refine wp_label ?_
  go_wp2
  generalize hw1 : w.alloc (.cells #[.func (.yield l₀) #[] #[]] 73) = w1 at LI0 hq0 ⊢
  generalize hb3 : w.heap.size = b3 at LI0 ⊢
  clear hb3 hw1 hq0 HK0
  refine wp_loop (fun a' W => ∃ (i : Nat) (pre : List AX) (rest : List (Int × List Int)) (Ds : List Nat) (G0 : Nat → Prop) (Wp : World), a' = { tmps := TMC l₀ gl gf b3 A ss.length c i (fun i => a'.tmps.getD i undef), defers := Ds.map fun D => { target := .collected D, args := #[] } } ∧ (i ≤ ss.length ∧ CodF k fr (ss.drop i) rest ∧ all.drop pre.length = rest ∧ pre.length ≤ all.length) ∧ Gc D J w00 w l₀ b3 (fun _ => False) pre Ds G0 Wp W)
    (fun a' _ => leftC a')
    ⟨0, [], all, [], fun _ => False, w, by simp [TMC], ⟨Nat.zero_le _, HF.out, rfl, Nat.zero_le _⟩, LI0.out⟩ ?_
  rintro a' W ⟨i, pre, rest, Ds, G0, Wp, ha, ⟨hi, hcf, hrest, hpl⟩, hlies⟩
  generalize (fun i => a'.tmps.getD i undef) = u at ha
  subst ha
  unfold TMC
  have LI := Aa.mk hlies
  have HREST := Aa.mk hrest
  have HPL := Aa.mk hpl
  clear hlies hrest hpl LI0
  by_cases hil : i < ss.length
  · have cd1 : decide ((i : Int) < (ss.length : Int)) = true := decide_eq_true (by omega)
    have cd2 : decide (i < ss.length) = true := decide_eq_true hil
    have p1 : (0 ≤ (i : Int)) = True := eq_true (by omega)
    have p2 : ((i : Int) < (ss.length : Int)) = True := eq_true (by omega)
    have p3 : (i < ss.length) = True := eq_true hil
    rw [List.drop_eq_getElem_cons hil] at hcf
    obtain ⟨hgl, hgf, hcs⟩ := HD.out W LI.out.kept
    obtain ⟨ad, Ap, cp, eA, hx0, hx1, hcp, hCp⟩ := Cz hcs (i : Int) (by omega) (by omega)
    subst eA
    have hrd : Ad ss (i : Int) = ss[i] := by simp [Ad, List.getD, hil]
    rw [hrd] at hx0 hx1 hcp hCp
    rw [Int.toNat_natCast] at hx0 hx1
    generalize hp : ss[i] = p at hcf hx0 hx1 hcp hCp
    obtain ⟨p0, pf⟩ := p
    simp only at hx0 hx1 hcp hCp
    obtain ⟨cnt, hcnt, hpf, hcase⟩ := hcf
    simp only at hcnt hpf hcase
    have hcf0 : W.cell? ⟨gf, 0, none⟩ = some (.int .i64 fr) := (Ag hgf 0).trans rfl
    generalize hpl0 : p0.length = pl at hx0 hcp
    have HX5 := Aa.mk (Fl W (.cells #[.slice Ap pl cp, .int .i64 pf] 44))
    have HB4 : Aa (Below W.heap.size W (W.alloc (.cells #[.slice Ap pl cp, .int .i64 pf] 44))) := ⟨(Below.refl _ W).alloc (Nat.le_refl _) _⟩
    have HIL := Aa.mk hil
    have HCNT := Aa.mk hcnt
    have HPF := Aa.mk hpf
    have HCASE := Aa.mk hcase
    have HCP := Aa.mk hcp
    have HCCP := Aa.mk hCp
    have HPL0 := Aa.mk hpl0
    have HGF := Aa.mk hgf
    clear hi hil hgl hgf hcs hrd hcp hCp hp hcnt hpf hcase hpl0
    go_wp2
    have LI4 := Aa.mk (LI.out.below HDW.out HB4.out)
    have hg4 : (W.alloc (.cells #[.slice Ap pl cp, .int .i64 pf] 44)).cell? ⟨gf, 0, none⟩ = some (.int .i64 fr) := (Ag (Ce HGF.out HB4.out) 0).trans rfl
    have hg5 : (W.alloc (.cells #[.slice Ap pl cp, .int .i64 pf] 44)).cell? ⟨W.heap.size, 0, none⟩ = some (.slice Ap pl cp) := (Ag HX5.out 0).trans rfl
    have hg6 : (W.alloc (.cells #[.slice Ap pl cp, .int .i64 pf] 44)).cell? ⟨W.heap.size, 1, none⟩ = some (.int .i64 pf) := (Ag HX5.out 1).trans rfl
    have HC4 := Aa.mk (Kd.C_below HCCP.out HB4.out)
    have hcount : ∀ w', Kd.C (Kd.slice 58 k58) w' Ap p0.length p0 → Calls Tryz.prog 40 #[.agg #[.slice Ap pl cp, .int .i64 pf]] w' fun e w'' => e = .returned (.int .i64 cnt) ∧ Below w'.heap.size w' w'' := fun w' h => by
      rw [← HPL0.out]
      exact Fk.calls k Ap cp p0 pf cnt w' h (by rw [HPL0.out]; exact HCP.out) HCNT.out
    have HCOUNT := Aa.mk hcount
    clear hcount hx0 hx1 hcf0
    generalize hb5 : W.heap.size = b5 at HX5 hg5 hg6 HB4 ⊢
    generalize hW4 : W.alloc (.cells #[.slice Ap pl cp, .int .i64 pf] 44) = W4 at LI4 hg4 hg5 hg6 HC4 HX5 HB4 ⊢
    have HSB5 := Aa.mk (show w.heap.size ≤ b5 ∧ b5 < W4.heap.size ∧ Wp.heap.size ≤ b5 ∧ (∀ k, k = b3 ∨ k ∈ Ds → k < b5) from ⟨by rw [← hb5]; exact LI.out.size, Fx HX5.out, by rw [← hb5]; exact LI.out.grown.size, fun k hk => by
      rw [← hb5]
      rcases hk with rfl | hk
      · exact Fx LI.out.box3
      · exact (Array.getElem?_eq_some_iff.1 (LI.out.marks k hk).2).1⟩)
    clear hb5 hW4 LI HCCP HB4
    by_cases c1 : pf < fr
    · have hw1 : wrap64 (fr - pf) = fr - pf := w64o (by omega) (by have := HFR.out; have := HPF.out; omega)
      have d1 : decide (fr > pf) = true := decide_eq_true c1
      have d1' : decide (pf < fr) = true := decide_eq_true c1
      by_cases c2 : cnt ≤ fr - pf
      · have d2 : decide (fr - pf ≥ cnt) = true := decide_eq_true c2
        have d2' : decide (cnt ≤ fr - pf) = true := decide_eq_true c2
        have hnext : CodF k fr (ss.drop (i + 1)) rest := by
          rcases HCASE.out with ⟨_, h⟩ | ⟨h, _⟩
          · exact h
          · exact absurd ⟨c1, c2⟩ h
        have HNEXT := Aa.mk hnext
        clear c1 c2 hnext
        go_region_held3 (fun w' => w'.cell? ⟨gf, 0, none⟩ = some (.int .i64 fr) ∧ w'.cell? ⟨b5, 0, none⟩ = some (.slice Ap pl cp) ∧ w'.cell? ⟨b5, 1, none⟩ = some (.int .i64 pf))
          (first | go_keep | (go_split_ands; exact ⟨Mu HB5.out (by assumption), Mu HB5.out (by assumption), Mu HB5.out (by assumption)⟩))
          (first | (go_at_call 40; refine (HCOUNT.out _ (Kd.C_drew HC4.out)).mono ?_; rintro e w5 ⟨rfl, hb⟩; have HB5 := Aa.mk hb; clear hb))
        have hwi : wrap64 ((i : Int) + 1) = (i : Int) + 1 := w64o (by omega) (by have := HIL.out; have := HSL.out; omega)
        rw [Hu, hw1, d2']
        go_wp2
        rw [hwi]
        have hb45 : Below W4.heap.size W4 w5 := Dz (Bv (Below.refl W4.heap.size W4)) HB5.out
        refine ⟨⟨i + 1, pre, rest, Ds, G0, Wp, rfl, ⟨by have := HIL.out; omega, HNEXT.out, HREST.out, HPL.out⟩, LI4.out.below HDW.out hb45⟩, ?_⟩
        have := HIL.out
        show ((ss.length : Int) - ((i : Int) + 1)).toNat < ((ss.length : Int) - (i : Int)).toNat
        omega
      · have d2 : decide (fr - pf ≥ cnt) = false := decide_eq_false (by omega)
        have d2' : decide (cnt ≤ fr - pf) = false := decide_eq_false c2
        have hno : ¬ (pf < fr ∧ cnt ≤ fr - pf) := fun h => c2 h.2
        have HNOT := Aa.mk hno
        clear c1 c2 hno
        go_region_held3 (fun w' => w'.cell? ⟨gf, 0, none⟩ = some (.int .i64 fr) ∧ w'.cell? ⟨b5, 0, none⟩ = some (.slice Ap pl cp) ∧ w'.cell? ⟨b5, 1, none⟩ = some (.int .i64 pf))
          (first | go_keep | (go_split_ands; exact ⟨Mu HB5.out (by assumption), Mu HB5.out (by assumption), Mu HB5.out (by assumption)⟩))
          (first | (go_at_call 40; refine (HCOUNT.out _ (Kd.C_drew HC4.out)).mono ?_; rintro e w5 ⟨rfl, hb⟩; have HB5 := Aa.mk hb; clear hb))
        rw [Hu, hw1, d2']
        have HB45 : Aa (Below W4.heap.size W4 w5) := ⟨Dz (Bv (Below.refl W4.heap.size W4)) HB5.out⟩
        clear HB5
        have hcasen : ∃ (r1 : List Int) (ok : Bool) (N : Nat) (sq : Nat → List Int) (L : Nat → List S95) (rest' : List (Int × List Int)), Br.f k [⟨p0, pf⟩] = some [⟨p0, pf⟩] ∧ AllF k p0 pf (max fr pf - pf) r1 ok N sq L ∧ (1 ≤ N → max fr pf - pf + (N : Int) ≤ 1073741824) ∧ rest = ((List.range N).map fun (j : Nat) => (pf + (max fr pf - pf + (j : Int)), sq j)) ++ rest' ∧ CodF k fr (ss.drop (i + 1)) rest' := by
          rcases HCASE.out with ⟨h, _⟩ | ⟨_, h⟩
          · exact absurd h HNOT.out
          · exact h
        obtain ⟨r1, ok, N, sq, L, rest', hcp2, hAF, hNb, hrs, hnx⟩ := hcasen
        have HCP2 := Aa.mk hcp2
        have HAF := Aa.mk hAF
        have HNB := Aa.mk hNb
        have HRS := Aa.mk hrs
        have HNX := Aa.mk hnx
        obtain ⟨f', hf'⟩ : ∃ f', f' = max fr pf - pf := ⟨_, rfl⟩
        have HF' := Aa.mk hf'
        have hmx : max f' 0 = f' := by rw [hf']; omega
        have HMX := Aa.mk hmx
        rw [← hf'] at HAF HNB HRS
        have hw2 : wrap64 (max fr pf - pf) = f' := by rw [hf']; exact w64o (by omega) (by have := HFR.out; have := HPF.out; omega)
        have C5 := Aa.mk (Kd.C_below HC4.out HB45.out)
        have LI5 := Aa.mk (LI4.out.below HDW.out HB45.out)
        have X5 := Aa.mk (Ce HX5.out HB45.out)
        have hall : ∀ w', Kd.C (Kd.slice 58 k58) w' Ap p0.length p0 → Calls Tryz.prog 41 #[.agg #[.slice Ap pl cp, .int .i64 pf], .int .i64 f'] w' _ := fun w' h => by
          rw [← HPL0.out]
          exact Pa.calls k Ap cp p0 pf f' p0 pf w' h (by rw [HPL0.out]; exact HCP.out) HCP2.out
        have HALL := Aa.mk hall
        clear hcp2 hAF hNb hrs hnx hf' hmx hall hg4 hg5 hg6
        have hg4 : w5.cell? ⟨gf, 0, none⟩ = some (.int .i64 fr) := (Ag (HD.out w5 LI5.out.kept).2.1 0).trans rfl
        have hg5 : w5.cell? ⟨b5, 0, none⟩ = some (.slice Ap pl cp) := (Ag X5.out 0).trans rfl
        have hg6 : w5.cell? ⟨b5, 1, none⟩ = some (.int .i64 pf) := (Ag X5.out 1).trans rfl
        go_wp2_with (first | (go_at_call 41; refine (HALL.out _ C5.out).mono ?_; rintro e w8 ⟨gf', gp', A8, c8, rfl, hgf8, hc8, hD8, hb8⟩; have HGF8 := Aa.mk hgf8; have HC8 := Aa.mk hc8; have HD8 := Aa.mk hD8; have HB8 := Aa.mk hb8; clear hgf8 hc8 hD8 hb8))
        have HSZ := Aa.mk (show w5.heap.size ≤ w8.heap.size ∧ W4.heap.size ≤ w5.heap.size from ⟨HB8.out.size, HB45.out.size⟩)
        have LI8 := Aa.mk (LI5.out.below HDW.out HB8.out)
        have X8 := Aa.mk (Ce X5.out HB8.out)
        have LIB : Aa (Gc D J w00 w l₀ b3 (Bof b5 w8.heap.size w5.heap.size (fun _ => False)) (pre ++ ([] : List AX).map (cv pf)) Ds G0 Wp w8) := ⟨by
          rw [List.map_nil, List.append_nil]
          refine LI8.out.grow fun k hk => ?_
          have h1 := HSB5.out.2.2.1
          have h2 := HSB5.out.2.1
          have h3 := HSZ.out
          rcases hk with rfl | rfl | rfl | hk | hk
          · exact h1
          · omega
          · omega
          · exact hk.elim
          · omega⟩
        clear LI4 LI5 X5 hg4 hg5 hg6
        refine (wpIn_wide (n := n)).1 ?_
        refine Fy (F := Fence.wide) rfl (by have := HN.out; omega) (gf := 62) (lb := #[.pointer (some ⟨gf', 0, none⟩), .pointer (some ⟨gp', 0, none⟩)]) rfl trivial (enters_of Tryz.func62 (by kernel_rfl) rfl) (Ua (n - 1) (by have := HN.out; omega) HAF.out (D := fun k => w5.heap.size ≤ k ∧ k < w8.heap.size) (w0 := w8) (fun k hk => hk.2) HGF8.out HC8.out HD8.out) KpD.trans ?hKb (Below.refl _ _) (fun _ => rfl)
          (fun Gi pre' W => ∃ G0 Wp, Gc D J w00 w l₀ b3 (Bof b5 w8.heap.size w5.heap.size Gi) (pre ++ pre'.map (cv pf)) Ds G0 Wp W ∧ W.heap[b5]? = some (.cells #[.slice Ap pl cp, .int .i64 pf] 44 (0, 0)))
          (fun c Gi pre' W => c = .exit 0 ∧ Jx (fun k => k = b3 ∨ k ∈ Ds ∨ Bof b5 w8.heap.size w5.heap.size Gi k) (pre ++ pre'.map (cv pf)) W ∧ ∀ k ∈ Ds, W.heap[k]? = some (.deferred (some [])))
          ?hI ?hIx ?hIp ?hIxp ⟨G0, Wp, LIB.out, X8.out⟩
          (fun Gi pre' x a' W => a' = { tmps := TMB l₀ gl gf b3 b5 x (fun i => a'.tmps.getD i undef), defers := [] } ∧ w8.heap.size + 2 ≤ W.heap.size ∧ ∃ G0 Wp, Gc D J w00 w l₀ b3 (Bof b5 w8.heap.size w5.heap.size Gi) (pre ++ pre'.map (cv pf)) Ds G0 Wp W ∧ W.heap[b5]? = some (.cells #[.slice Ap pl cp, .int .i64 pf] 44 (0, 0)) ∧ pre'.length < N ∧ x.k = f' + pre'.length ∧ x.b = sq pre'.length ∧ Kd.R (Kd.int .u8) 5 W Wp.heap.size (fun k => ¬ (k = b3 ∨ k ∈ Ds ∨ Bof b5 w8.heap.size w5.heap.size Gi k)) (.slice x.A x.b.length x.c) x.b)
          ?hAx ?hassign ?hbody ?hdone ?hstop
        case hKb =>
          intro W l_ o o' hl_ ho hc_ hw_
          exact KpD.grown (KpD.refl _ W) (grownBy_putObj' W l_ o') (fun k hk => ⟨by have := (Array.getElem?_eq_some_iff.1 ho).1; omega, fun e => by cases e; omega⟩)
        case hI =>
          rintro B hB Gi Gi' pre' W W' ⟨G0', Wp', hl, h5⟩ hG hg hG'
          have h1 := HSB5.out
          have h3 := HSZ.out
          refine ⟨G0', Wp', hl.abide HDW.out hg (fun k hk => ⟨.inr (.inr (.inr (.inl hk))), by have := hG k hk; omega, fun e => by have := hG k hk; have := h1.2.2.2 b3 (.inl rfl); omega, fun hd => by have := hG k hk; have := h1.2.2.2 k (.inr hd); omega⟩) (fun k hk => ?_), (hg.block b5 (Fx h5) (fun hk => by have := hG b5 hk; omega)).trans h5⟩
          rcases hk with hk | hk | hk | hk | hk
          · exact .inl (.inl hk)
          · exact .inl (.inr (.inl hk))
          · exact .inl (.inr (.inr (.inl hk)))
          · rcases hG' k hk with hk | hk
            · exact .inl (.inr (.inr (.inr (.inl hk))))
            · exact .inr hk
          · exact .inl (.inr (.inr (.inr (.inr hk))))
        case hIx =>
          rintro c B hB Gi Gi' pre' W W' ⟨h0, hx, hm⟩ hG hg hG'
          have h1 := HSB5.out
          have h3 := HSZ.out
          have h4 := LI8.out.low
          have h5 := LI8.out.marks
          refine ⟨h0, HJX.out _ _ _ _ _ hx (fun k hk => ?_) (Dt.mono hg (fun k hk => .inr (.inr (.inr (.inr (.inr (.inl hk))))))) (fun k hk => ?_), fun k hk => (hg.block k (Array.getElem?_eq_some_iff.1 (hm k hk)).1 (fun hk2 => by have := hG k hk2; have := h1.2.2.2 k (.inr hk); omega)).trans (hm k hk)⟩
          · rcases hk with rfl | hk | hk | hk | hk | hk | hk
            · exact h4
            · exact (h5 k hk).1
            · omega
            · omega
            · omega
            · have := hG k hk; omega
            · omega
          · rcases hk with hk | hk | hk | hk | hk | hk | hk
            · exact .inl (.inl hk)
            · exact .inl (.inr (.inl hk))
            · exact .inl (.inr (.inr (.inl hk)))
            · exact .inl (.inr (.inr (.inr (.inl hk))))
            · exact .inl (.inr (.inr (.inr (.inr (.inl hk)))))
            · rcases hG' k hk with hk | hk
              · exact .inl (.inr (.inr (.inr (.inr (.inr (.inl hk))))))
              · exact .inr hk
            · exact .inl (.inr (.inr (.inr (.inr (.inr (.inr hk))))))
        case hIp =>
          rintro Gi pre' W l_ o o' hG ⟨G0', Wp', hl, h5⟩ rfl ho hc_
          have h1 := HSB5.out
          have h3 := HSZ.out
          exact ⟨G0', Wp', hl.put HDW.out ⟨.inr (.inr (.inl rfl)), by omega, fun e => by have := h1.2.2.2 b3 (.inl rfl); omega, fun hd => by have := h1.2.2.2 _ (.inr hd); omega⟩ o', (World.putObj_heap_other (by omega)).trans h5⟩
        case hIxp =>
          rintro c Gi pre' W l_ o o' hG ⟨h0, hx, hm⟩ rfl ho hc_
          have h1 := HSB5.out
          have h3 := HSZ.out
          have h4 := LI8.out.low
          have h5 := LI8.out.marks
          refine ⟨h0, HJX.out _ _ _ _ _ hx (fun k hk => ?_) (Dt.put (.inr (.inr (.inr (.inr (.inl rfl))))) o') (fun k hk => .inl hk), fun k hk => (World.putObj_heap_other (by have := h1.2.2.2 k (.inr hk); omega)).trans (hm k hk)⟩
          rcases hk with rfl | hk | hk | hk | hk | hk | hk
          · exact h4
          · exact (h5 k hk).1
          · omega
          · omega
          · omega
          · have := hG k hk; omega
          · omega
        case hAx =>
          rintro Gi pre' x a' W o o' hG ⟨hu, hz, G0', Wp', hl, h5, h6, h7, h8, h9⟩ ho hc_
          have h1 := HSB5.out
          have h3 := HSZ.out
          exact ⟨hu, by simpa [World.putObj] using hz, G0', Wp', hl.put HDW.out ⟨.inr (.inr (.inl rfl)), by omega, fun e => by have := h1.2.2.2 b3 (.inl rfl); omega, fun hd => by have := h1.2.2.2 _ (.inr hd); omega⟩ o', (World.putObj_heap_other (by omega)).trans h5, h6, h7, h8, Kd.R_grown h9 (grownBy_putObj' W _ o') (fun k hk e => by cases e; exact hk (.inr (.inr (.inr (.inr (.inl rfl))))))⟩
        case hassign =>
          rintro l_ G0i Gi pre' x Wpi W K hG hG0 hWpi ⟨G0', Wp', hl, h5⟩ hg0 hfr_ hI hRd hK
          have h1 := HSB5.out
          have h3 := HSZ.out
          have hl2 : Gc D J w00 w l₀ b3 (Bof b5 w8.heap.size w5.heap.size Gi) (pre ++ pre'.map (cv pf)) Ds G0' Wp' W := hl.abide HDW.out hg0 (fun k hk => ⟨.inr (.inr (.inr (.inl hk))), by have := hG0 k hk; omega, fun e => by have := hG0 k hk; have := h1.2.2.2 b3 (.inl rfl); omega, fun hd => by have := hG0 k hk; have := h1.2.2.2 k (.inr hd); omega⟩) (fun k hk => by
            rcases hk with hk | hk | hk | hk | hk
            · exact .inl (.inl hk)
            · exact .inl (.inr (.inl hk))
            · exact .inl (.inr (.inr (.inl hk)))
            · rcases hfr_ k hk with hk | hk
              · exact .inl (.inr (.inr (.inr (.inl hk))))
              · exact .inr hk
            · exact .inl (.inr (.inr (.inr (.inr hk)))))
          have hR : Kd.R (Kd.int .u8) 5 W Wp'.heap.size (fun k => ¬ (k = b3 ∨ k ∈ Ds ∨ Bof b5 w8.heap.size w5.heap.size Gi k)) (.slice x.A x.b.length x.c) x.b := Kd.R_lower (Kd.R_mono (Kd.R_bound hRd.2.2.2) (fun k hk hn => by
            have h6 := hk.2.1
            rcases hn with rfl | hn | hn | hn | hn | hn | hn
            · have := h1.2.2.2 k (.inl rfl); omega
            · have := h1.2.2.2 k (.inr hn); omega
            · omega
            · omega
            · omega
            · exact hk.1 hn
            · omega)) hl.grown.size
          have h52 := (hg0.block b5 (Fx h5) (fun hk => by have := hG0 b5 hk; omega)).trans h5
          have hz2 := hg0.size
          unfold encA
          simp only [List.size_toArray, Array.zip, List.zip_toArray]
          gi_wp2
          exact hK _ _ (KeepsFrom.refl _ _) (KpD.refl _ _) (fun _ _ => rfl) hI ⟨rfl, by omega, G0', Wp', hl2, h52, hRd.1, by rw [hRd.2.1, HMX.out], hRd.2.2.1, hR⟩
        case hbody =>
          rintro l_ Gi pre' x_ a' W hG hI ⟨ha, hz, G0', Wp', hl, h5, hpl', hxk, hxb, hR⟩
          generalize (fun i => a'.tmps.getD i undef) = u'' at ha
          subst ha
          obtain ⟨xk, xA, xc, xb⟩ := x_
          unfold TMB
          simp only at hxk hxb hR ⊢
          have HL := Aa.mk hl
          have h1 := HSB5.out
          have h3 := HSZ.out
          have hgb : ∀ k, (k = b3 ∨ k ∈ Ds ∨ Bof b5 w8.heap.size w5.heap.size Gi k) → w.heap.size ≤ k ∧ k < W.heap.size := fun k hk => by
            rcases hk with rfl | hk | hk | hk | hk | hk | hk
            · exact ⟨hl.low, Fx hl.box3⟩
            · exact ⟨(hl.marks k hk).1, (Array.getElem?_eq_some_iff.1 (hl.marks k hk).2).1⟩
            · omega
            · omega
            · omega
            · have := hG k hk; omega
            · omega
          have hlen : (pre ++ pre'.map (cv pf)).length = pre.length + pre'.length := by simp
          have hat : all[(pre ++ pre'.map (cv pf)).length]? = some (pf + xk, xb) := by
            rw [hlen, ← List.getElem?_drop, HREST.out, HRS.out, List.getElem?_append_left (by simpa using hpl'), List.getElem?_map, List.getElem?_range hpl', hxk, hxb]
            rfl
          have hyy := HY.out G0' (fun k => k = b3 ∨ k ∈ Ds ∨ Bof b5 w8.heap.size w5.heap.size Gi k) (pre ++ pre'.map (cv pf)) ⟨pf + xk, xA, xc, xb⟩ Wp' W hgb hl.own hl.told hl.grown hl.fresh ⟨hat, hR⟩
          simp only [encA] at hyy
          obtain ⟨fn, tmps, assign, body, hy, hR2⟩ := hyy
          have hwk : wrap64 (pf + xk) = pf + xk := by
            have hb := HNB.out (by omega)
            have hp_ := HPF.out
            have hf_ := HF'.out
            exact w64o (by omega) (by omega)
          have c3 : W.cell? ⟨b3, 0, none⟩ = some (.func (.yield l₀) #[] #[]) := (Ag hl.box3 0).trans rfl
          have c5 : W.cell? ⟨b5, 1, none⟩ = some (.int .i64 pf) := (Ag h5 1).trans rfl
          have HGB := Aa.mk hgb
          have HG := Aa.mk hG
          have H5 := Aa.mk h5
          clear hl h5 hpl' hxk hxb hR hlen hat hgb hG hI hz h1 h3
          gi_wp2
          refine ⟨fun h => (by cases h), (RoundIn.within hR2).mono ?_⟩
          have ecv : ∀ xs : List AX, pre ++ (xs ++ [(⟨xk, xA, xc, xb⟩ : AX)]).map (cv pf) = pre ++ xs.map (cv pf) ++ [⟨pf + xk, xA, xc, xb⟩] := fun xs => by simp [cv]
          have hsz8 : w.heap.size ≤ w8.heap.size := by have := HSB5.out; have := HSZ.out; omega
          rintro e W3 (⟨rfl, hJ3, hk3, hg3, hkf3⟩ | ⟨rfl, hJx3, hkf3⟩)
          · have R1 := Aa.mk (KeepsFrom.up hkf3 hsz8)
            have R2 : Aa (KpD (fun k => w5.heap.size ≤ k ∧ k < w8.heap.size) W W3) := ⟨hk3.1, fun k hk => hg3 k (.inr (.inr (.inr (.inr (.inr (.inr hk))))))⟩
            have R3 : Aa (∀ k, Gi k → W3.heap[k]? = W.heap[k]?) := ⟨fun k hk => hg3 k (.inr (.inr (.inr (.inr (.inr (.inl hk))))))⟩
            have R4 : Aa (Gc D J w00 w l₀ b3 (Bof b5 w8.heap.size w5.heap.size Gi) (pre ++ (pre' ++ [(⟨xk, xA, xc, xb⟩ : AX)]).map (cv pf)) Ds (fun k => k = b3 ∨ k ∈ Ds ∨ Bof b5 w8.heap.size w5.heap.size Gi k) W3 W3) := ⟨{
              box3 := (hg3 b3 (.inl rfl)).trans HL.out.box3
              told := by rw [ecv]; exact hJ3
              grown := Dt.refl _ _
              own := fun k hk => (HGB.out k hk).1
              fresh := fun k hk => .inl hk
              kept := HL.out.kept.trans hk3
              wp := Nat.le_trans HL.out.size hk3.1
              low := HL.out.low
              nodup := HL.out.nodup
              marks := fun k hk => ⟨(HL.out.marks k hk).1, (hg3 k (.inr (.inl hk))).trans (HL.out.marks k hk).2⟩ }⟩
            have R5 := Aa.mk ((hg3 b5 (.inr (.inr (.inl rfl)))).trans H5.out)
            clear hJ3 hk3 hg3 hkf3 hR2 hy ecv hsz8
            gi_wp2
            exact ⟨R1.out, ⟨R2.out, R3.out⟩, _, _, R4.out, R5.out⟩
          · have R1 := Aa.mk (KeepsFrom.up hkf3 hsz8)
            have R2 : Aa (Jx (fun k => k = b3 ∨ k ∈ Ds ∨ Bof b5 w8.heap.size w5.heap.size Gi k) (pre ++ (pre' ++ [(⟨xk, xA, xc, xb⟩ : AX)]).map (cv pf)) W3) := ⟨by rw [ecv]; exact hJx3⟩
            have R3 : Aa (∀ k ∈ Ds, W3.heap[k]? = some (.deferred (some []))) := ⟨fun k hk => hkf3.same k _ (HL.out.marks k hk).1 (HL.out.marks k hk).2 rfl⟩
            clear hJx3 hkf3 hR2 hy ecv hsz8
            gi_wp2
            exact ⟨R1.out, rfl, R2.out, R3.out⟩
        case hdone =>
          rintro M Gi ys W9 hM hys ⟨G0', Wp', hl, h5⟩ hMd
          have h1 := HSB5.out
          have h3 := HSZ.out
          have HLM := Aa.mk (hl.mark hMd (.inr (.inl hM)) (by omega) (fun hd => by have := h1.2.2.2 M (.inr hd); omega))
          have hwi : wrap64 ((i : Int) + 1) = (i : Int) + 1 := w64o (by omega) (by have := HIL.out; have := HSL.out; omega)
          have HYS := Aa.mk (show ys.length = N from hys)
          clear hl h5 hMd hys hM h1 h3
          gi_wp2
          try go_wp2
          rw [hwi]
          have hlen : (pre ++ ys.map (cv pf)).length = pre.length + N := by have := HYS.out; simp; omega
          have hdr : all.drop (pre.length + N) = rest' := by
            rw [← List.drop_drop, HREST.out, HRS.out, List.drop_append_of_le_length (by simp), List.drop_of_length_le (by simp), List.nil_append]
          have hle : pre.length + N ≤ all.length := by
            have h1 := HPL.out
            have h2 := congrArg List.length HREST.out
            rw [HRS.out] at h2
            simp at h2
            omega
          refine ⟨⟨i + 1, pre ++ ys.map (cv pf), rest', M :: Ds, G0', Wp', rfl, ⟨by have := HIL.out; omega, HNX.out, by rw [hlen]; exact hdr, by rw [hlen]; exact hle⟩, HLM.out⟩, ?_⟩
          have := HIL.out
          show ((ss.length : Int) - ((i : Int) + 1)).toNat < ((ss.length : Int) - (i : Int)).toNat
          omega
        case hstop =>
          rintro M c Gi pre' W9 hM hGi hSp ⟨rfl, hjx, hmk⟩ hMd
          have h1 := HSB5.out
          have h3 := HSZ.out
          have h4 := LI8.out.low
          have h5 := LI8.out.marks
          have HJX9 := Aa.mk hjx
          have HSP := Aa.mk hSp
          have HND := Aa.mk (show (M :: Ds).Nodup from List.nodup_cons.2 ⟨fun hd => by have := h1.2.2.2 M (.inr hd); omega, LI8.out.nodup⟩)
          have HMK := Aa.mk (show ∀ k ∈ M :: Ds, W9.heap[k]? = some (.deferred (some [])) from fun k hk => by
            rcases List.mem_cons.1 hk with rfl | hk
            · exact hMd
            · exact hmk k hk)
          have hle : pre.length + N ≤ all.length := by
            have h1 := HPL.out
            have h2 := congrArg List.length HREST.out
            rw [HRS.out] at h2
            simp at h2
            omega
          have HLE := Aa.mk hle
          have HMW := Aa.mk hM
          have hown : ∀ k, (k = b3 ∨ k ∈ Ds ∨ Bof b5 w8.heap.size w5.heap.size Gi k) → w.heap.size ≤ k := fun k hk => by
            rcases hk with rfl | hk | hk | hk | hk | hk | hk
            · exact h4
            · exact (h5 k hk).1
            · omega
            · omega
            · omega
            · have := hGi k hk; omega
            · omega
          have HOWN := Aa.mk hown
          clear hown hGi
          clear hjx hSp hmk hMd hM h1 h3 h4 h5 hle
          gi_wp2
          try refine Io ?_
          refine Fu (M := fun k => k = b3 ∨ k ∈ Ds ∨ Bof b5 w8.heap.size w5.heap.size Gi k) (X := fun W => Jx (fun k => k = b3 ∨ k ∈ Ds ∨ Bof b5 w8.heap.size w5.heap.size Gi k) (pre ++ pre'.map (cv pf)) W) ?_ ?_ (M :: Ds) _ HND.out ?_ HJX9.out
          · exact fun W k hx hM2 _ => HJX.out _ _ _ _ _ hx HOWN.out (Dt.put (G := fun k => k = b3 ∨ k ∈ Ds ∨ Bof b5 w8.heap.size w5.heap.size Gi k) hM2 _) (fun k h => .inl h)
          · exact fun W hx => ⟨_, results_none rfl _ _ _, ⟨_, rfl⟩, _, HOWN.out, .inr ⟨_, ⟨by have := HSP.out; simp; omega, by have := HSP.out; have := HLE.out; simp; omega⟩, hx⟩⟩
          · intro k hk
            refine ⟨?_, HMK.out k hk⟩
            rcases List.mem_cons.1 hk with rfl | hk
            · exact .inr (.inr (.inr (.inl HMW.out)))
            · exact .inr (.inl hk)
    · have d1 : decide (fr > pf) = false := decide_eq_false (by omega)
      have d1' : decide (pf < fr) = false := decide_eq_false c1
      have hno : ¬ (pf < fr ∧ cnt ≤ fr - pf) := fun h => c1 h.1
      have HNOT := Aa.mk hno
      have d1p : (pf < fr) = False := eq_false c1
      clear c1 hno
      go_quiet (fail)
      have HB45 : Aa (Below W4.heap.size W4 (W4.drewN nq)) := ⟨Cx (Below.refl W4.heap.size W4) nq⟩
      generalize W4.drewN nq = w5 at HB45 ⊢
      have hcasen : ∃ (r1 : List Int) (ok : Bool) (N : Nat) (sq : Nat → List Int) (L : Nat → List S95) (rest' : List (Int × List Int)), Br.f k [⟨p0, pf⟩] = some [⟨p0, pf⟩] ∧ AllF k p0 pf (max fr pf - pf) r1 ok N sq L ∧ (1 ≤ N → max fr pf - pf + (N : Int) ≤ 1073741824) ∧ rest = ((List.range N).map fun (j : Nat) => (pf + (max fr pf - pf + (j : Int)), sq j)) ++ rest' ∧ CodF k fr (ss.drop (i + 1)) rest' := by
        rcases HCASE.out with ⟨h, _⟩ | ⟨_, h⟩
        · exact absurd h HNOT.out
        · exact h
      obtain ⟨r1, ok, N, sq, L, rest', hcp2, hAF, hNb, hrs, hnx⟩ := hcasen
      have HCP2 := Aa.mk hcp2
      have HAF := Aa.mk hAF
      have HNB := Aa.mk hNb
      have HRS := Aa.mk hrs
      have HNX := Aa.mk hnx
      obtain ⟨f', hf'⟩ : ∃ f', f' = max fr pf - pf := ⟨_, rfl⟩
      have HF' := Aa.mk hf'
      have hmx : max f' 0 = f' := by rw [hf']; omega
      have HMX := Aa.mk hmx
      rw [← hf'] at HAF HNB HRS
      have hw2 : wrap64 (max fr pf - pf) = f' := by rw [hf']; exact w64o (by omega) (by have := HFR.out; have := HPF.out; omega)
      have C5 := Aa.mk (Kd.C_below HC4.out HB45.out)
      have LI5 := Aa.mk (LI4.out.below HDW.out HB45.out)
      have X5 := Aa.mk (Ce HX5.out HB45.out)
      have hall : ∀ w', Kd.C (Kd.slice 58 k58) w' Ap p0.length p0 → Calls Tryz.prog 41 #[.agg #[.slice Ap pl cp, .int .i64 pf], .int .i64 f'] w' _ := fun w' h => by
        rw [← HPL0.out]
        exact Pa.calls k Ap cp p0 pf f' p0 pf w' h (by rw [HPL0.out]; exact HCP.out) HCP2.out
      have HALL := Aa.mk hall
      clear hcp2 hAF hNb hrs hnx hf' hmx hall hg4 hg5 hg6
      have hg4 : w5.cell? ⟨gf, 0, none⟩ = some (.int .i64 fr) := (Ag (HD.out w5 LI5.out.kept).2.1 0).trans rfl
      have hg5 : w5.cell? ⟨b5, 0, none⟩ = some (.slice Ap pl cp) := (Ag X5.out 0).trans rfl
      have hg6 : w5.cell? ⟨b5, 1, none⟩ = some (.int .i64 pf) := (Ag X5.out 1).trans rfl
      go_wp2_with (first | (go_at_call 41; refine (HALL.out _ C5.out).mono ?_; rintro e w8 ⟨gf', gp', A8, c8, rfl, hgf8, hc8, hD8, hb8⟩; have HGF8 := Aa.mk hgf8; have HC8 := Aa.mk hc8; have HD8 := Aa.mk hD8; have HB8 := Aa.mk hb8; clear hgf8 hc8 hD8 hb8))
      have HSZ := Aa.mk (show w5.heap.size ≤ w8.heap.size ∧ W4.heap.size ≤ w5.heap.size from ⟨HB8.out.size, HB45.out.size⟩)
      have LI8 := Aa.mk (LI5.out.below HDW.out HB8.out)
      have X8 := Aa.mk (Ce X5.out HB8.out)
      have LIB : Aa (Gc D J w00 w l₀ b3 (Bof b5 w8.heap.size w5.heap.size (fun _ => False)) (pre ++ ([] : List AX).map (cv pf)) Ds G0 Wp w8) := ⟨by
        rw [List.map_nil, List.append_nil]
        refine LI8.out.grow fun k hk => ?_
        have h1 := HSB5.out.2.2.1
        have h2 := HSB5.out.2.1
        have h3 := HSZ.out
        rcases hk with rfl | rfl | rfl | hk | hk
        · exact h1
        · omega
        · omega
        · exact hk.elim
        · omega⟩
      clear LI4 LI5 X5 hg4 hg5 hg6
      refine (wpIn_wide (n := n)).1 ?_
      refine Fy (F := Fence.wide) rfl (by have := HN.out; omega) (gf := 62) (lb := #[.pointer (some ⟨gf', 0, none⟩), .pointer (some ⟨gp', 0, none⟩)]) rfl trivial (enters_of Tryz.func62 (by kernel_rfl) rfl) (Ua (n - 1) (by have := HN.out; omega) HAF.out (D := fun k => w5.heap.size ≤ k ∧ k < w8.heap.size) (w0 := w8) (fun k hk => hk.2) HGF8.out HC8.out HD8.out) KpD.trans ?hKb (Below.refl _ _) (fun _ => rfl)
        (fun Gi pre' W => ∃ G0 Wp, Gc D J w00 w l₀ b3 (Bof b5 w8.heap.size w5.heap.size Gi) (pre ++ pre'.map (cv pf)) Ds G0 Wp W ∧ W.heap[b5]? = some (.cells #[.slice Ap pl cp, .int .i64 pf] 44 (0, 0)))
        (fun c Gi pre' W => c = .exit 0 ∧ Jx (fun k => k = b3 ∨ k ∈ Ds ∨ Bof b5 w8.heap.size w5.heap.size Gi k) (pre ++ pre'.map (cv pf)) W ∧ ∀ k ∈ Ds, W.heap[k]? = some (.deferred (some [])))
        ?hI ?hIx ?hIp ?hIxp ⟨G0, Wp, LIB.out, X8.out⟩
        (fun Gi pre' x a' W => a' = { tmps := TMB l₀ gl gf b3 b5 x (fun i => a'.tmps.getD i undef), defers := [] } ∧ w8.heap.size + 2 ≤ W.heap.size ∧ ∃ G0 Wp, Gc D J w00 w l₀ b3 (Bof b5 w8.heap.size w5.heap.size Gi) (pre ++ pre'.map (cv pf)) Ds G0 Wp W ∧ W.heap[b5]? = some (.cells #[.slice Ap pl cp, .int .i64 pf] 44 (0, 0)) ∧ pre'.length < N ∧ x.k = f' + pre'.length ∧ x.b = sq pre'.length ∧ Kd.R (Kd.int .u8) 5 W Wp.heap.size (fun k => ¬ (k = b3 ∨ k ∈ Ds ∨ Bof b5 w8.heap.size w5.heap.size Gi k)) (.slice x.A x.b.length x.c) x.b)
        ?hAx ?hassign ?hbody ?hdone ?hstop
      case hKb =>
        intro W l_ o o' hl_ ho hc_ hw_
        exact KpD.grown (KpD.refl _ W) (grownBy_putObj' W l_ o') (fun k hk => ⟨by have := (Array.getElem?_eq_some_iff.1 ho).1; omega, fun e => by cases e; omega⟩)
      case hI =>
        rintro B hB Gi Gi' pre' W W' ⟨G0', Wp', hl, h5⟩ hG hg hG'
        have h1 := HSB5.out
        have h3 := HSZ.out
        refine ⟨G0', Wp', hl.abide HDW.out hg (fun k hk => ⟨.inr (.inr (.inr (.inl hk))), by have := hG k hk; omega, fun e => by have := hG k hk; have := h1.2.2.2 b3 (.inl rfl); omega, fun hd => by have := hG k hk; have := h1.2.2.2 k (.inr hd); omega⟩) (fun k hk => ?_), (hg.block b5 (Fx h5) (fun hk => by have := hG b5 hk; omega)).trans h5⟩
        rcases hk with hk | hk | hk | hk | hk
        · exact .inl (.inl hk)
        · exact .inl (.inr (.inl hk))
        · exact .inl (.inr (.inr (.inl hk)))
        · rcases hG' k hk with hk | hk
          · exact .inl (.inr (.inr (.inr (.inl hk))))
          · exact .inr hk
        · exact .inl (.inr (.inr (.inr (.inr hk))))
      case hIx =>
        rintro c B hB Gi Gi' pre' W W' ⟨h0, hx, hm⟩ hG hg hG'
        have h1 := HSB5.out
        have h3 := HSZ.out
        have h4 := LI8.out.low
        have h5 := LI8.out.marks
        refine ⟨h0, HJX.out _ _ _ _ _ hx (fun k hk => ?_) (Dt.mono hg (fun k hk => .inr (.inr (.inr (.inr (.inr (.inl hk))))))) (fun k hk => ?_), fun k hk => (hg.block k (Array.getElem?_eq_some_iff.1 (hm k hk)).1 (fun hk2 => by have := hG k hk2; have := h1.2.2.2 k (.inr hk); omega)).trans (hm k hk)⟩
        · rcases hk with rfl | hk | hk | hk | hk | hk | hk
          · exact h4
          · exact (h5 k hk).1
          · omega
          · omega
          · omega
          · have := hG k hk; omega
          · omega
        · rcases hk with hk | hk | hk | hk | hk | hk | hk
          · exact .inl (.inl hk)
          · exact .inl (.inr (.inl hk))
          · exact .inl (.inr (.inr (.inl hk)))
          · exact .inl (.inr (.inr (.inr (.inl hk))))
          · exact .inl (.inr (.inr (.inr (.inr (.inl hk)))))
          · rcases hG' k hk with hk | hk
            · exact .inl (.inr (.inr (.inr (.inr (.inr (.inl hk))))))
            · exact .inr hk
          · exact .inl (.inr (.inr (.inr (.inr (.inr (.inr hk))))))
      case hIp =>
        rintro Gi pre' W l_ o o' hG ⟨G0', Wp', hl, h5⟩ rfl ho hc_
        have h1 := HSB5.out
        have h3 := HSZ.out
        exact ⟨G0', Wp', hl.put HDW.out ⟨.inr (.inr (.inl rfl)), by omega, fun e => by have := h1.2.2.2 b3 (.inl rfl); omega, fun hd => by have := h1.2.2.2 _ (.inr hd); omega⟩ o', (World.putObj_heap_other (by omega)).trans h5⟩
      case hIxp =>
        rintro c Gi pre' W l_ o o' hG ⟨h0, hx, hm⟩ rfl ho hc_
        have h1 := HSB5.out
        have h3 := HSZ.out
        have h4 := LI8.out.low
        have h5 := LI8.out.marks
        refine ⟨h0, HJX.out _ _ _ _ _ hx (fun k hk => ?_) (Dt.put (.inr (.inr (.inr (.inr (.inl rfl))))) o') (fun k hk => .inl hk), fun k hk => (World.putObj_heap_other (by have := h1.2.2.2 k (.inr hk); omega)).trans (hm k hk)⟩
        rcases hk with rfl | hk | hk | hk | hk | hk | hk
        · exact h4
        · exact (h5 k hk).1
        · omega
        · omega
        · omega
        · have := hG k hk; omega
        · omega
      case hAx =>
        rintro Gi pre' x a' W o o' hG ⟨hu, hz, G0', Wp', hl, h5, h6, h7, h8, h9⟩ ho hc_
        have h1 := HSB5.out
        have h3 := HSZ.out
        exact ⟨hu, by simpa [World.putObj] using hz, G0', Wp', hl.put HDW.out ⟨.inr (.inr (.inl rfl)), by omega, fun e => by have := h1.2.2.2 b3 (.inl rfl); omega, fun hd => by have := h1.2.2.2 _ (.inr hd); omega⟩ o', (World.putObj_heap_other (by omega)).trans h5, h6, h7, h8, Kd.R_grown h9 (grownBy_putObj' W _ o') (fun k hk e => by cases e; exact hk (.inr (.inr (.inr (.inr (.inl rfl))))))⟩
      case hassign =>
        rintro l_ G0i Gi pre' x Wpi W K hG hG0 hWpi ⟨G0', Wp', hl, h5⟩ hg0 hfr_ hI hRd hK
        have h1 := HSB5.out
        have h3 := HSZ.out
        have hl2 : Gc D J w00 w l₀ b3 (Bof b5 w8.heap.size w5.heap.size Gi) (pre ++ pre'.map (cv pf)) Ds G0' Wp' W := hl.abide HDW.out hg0 (fun k hk => ⟨.inr (.inr (.inr (.inl hk))), by have := hG0 k hk; omega, fun e => by have := hG0 k hk; have := h1.2.2.2 b3 (.inl rfl); omega, fun hd => by have := hG0 k hk; have := h1.2.2.2 k (.inr hd); omega⟩) (fun k hk => by
          rcases hk with hk | hk | hk | hk | hk
          · exact .inl (.inl hk)
          · exact .inl (.inr (.inl hk))
          · exact .inl (.inr (.inr (.inl hk)))
          · rcases hfr_ k hk with hk | hk
            · exact .inl (.inr (.inr (.inr (.inl hk))))
            · exact .inr hk
          · exact .inl (.inr (.inr (.inr (.inr hk)))))
        have hR : Kd.R (Kd.int .u8) 5 W Wp'.heap.size (fun k => ¬ (k = b3 ∨ k ∈ Ds ∨ Bof b5 w8.heap.size w5.heap.size Gi k)) (.slice x.A x.b.length x.c) x.b := Kd.R_lower (Kd.R_mono (Kd.R_bound hRd.2.2.2) (fun k hk hn => by
          have h6 := hk.2.1
          rcases hn with rfl | hn | hn | hn | hn | hn | hn
          · have := h1.2.2.2 k (.inl rfl); omega
          · have := h1.2.2.2 k (.inr hn); omega
          · omega
          · omega
          · omega
          · exact hk.1 hn
          · omega)) hl.grown.size
        have h52 := (hg0.block b5 (Fx h5) (fun hk => by have := hG0 b5 hk; omega)).trans h5
        have hz2 := hg0.size
        unfold encA
        simp only [List.size_toArray, Array.zip, List.zip_toArray]
        gi_wp2
        exact hK _ _ (KeepsFrom.refl _ _) (KpD.refl _ _) (fun _ _ => rfl) hI ⟨rfl, by omega, G0', Wp', hl2, h52, hRd.1, by rw [hRd.2.1, HMX.out], hRd.2.2.1, hR⟩
      case hbody =>
        rintro l_ Gi pre' x_ a' W hG hI ⟨ha, hz, G0', Wp', hl, h5, hpl', hxk, hxb, hR⟩
        generalize (fun i => a'.tmps.getD i undef) = u'' at ha
        subst ha
        obtain ⟨xk, xA, xc, xb⟩ := x_
        unfold TMB
        simp only at hxk hxb hR ⊢
        have HL := Aa.mk hl
        have h1 := HSB5.out
        have h3 := HSZ.out
        have hgb : ∀ k, (k = b3 ∨ k ∈ Ds ∨ Bof b5 w8.heap.size w5.heap.size Gi k) → w.heap.size ≤ k ∧ k < W.heap.size := fun k hk => by
          rcases hk with rfl | hk | hk | hk | hk | hk | hk
          · exact ⟨hl.low, Fx hl.box3⟩
          · exact ⟨(hl.marks k hk).1, (Array.getElem?_eq_some_iff.1 (hl.marks k hk).2).1⟩
          · omega
          · omega
          · omega
          · have := hG k hk; omega
          · omega
        have hlen : (pre ++ pre'.map (cv pf)).length = pre.length + pre'.length := by simp
        have hat : all[(pre ++ pre'.map (cv pf)).length]? = some (pf + xk, xb) := by
          rw [hlen, ← List.getElem?_drop, HREST.out, HRS.out, List.getElem?_append_left (by simpa using hpl'), List.getElem?_map, List.getElem?_range hpl', hxk, hxb]
          rfl
        have hyy := HY.out G0' (fun k => k = b3 ∨ k ∈ Ds ∨ Bof b5 w8.heap.size w5.heap.size Gi k) (pre ++ pre'.map (cv pf)) ⟨pf + xk, xA, xc, xb⟩ Wp' W hgb hl.own hl.told hl.grown hl.fresh ⟨hat, hR⟩
        simp only [encA] at hyy
        obtain ⟨fn, tmps, assign, body, hy, hR2⟩ := hyy
        have hwk : wrap64 (pf + xk) = pf + xk := by
          have hb := HNB.out (by omega)
          have hp_ := HPF.out
          have hf_ := HF'.out
          exact w64o (by omega) (by omega)
        have c3 : W.cell? ⟨b3, 0, none⟩ = some (.func (.yield l₀) #[] #[]) := (Ag hl.box3 0).trans rfl
        have c5 : W.cell? ⟨b5, 1, none⟩ = some (.int .i64 pf) := (Ag h5 1).trans rfl
        have HGB := Aa.mk hgb
        have HG := Aa.mk hG
        have H5 := Aa.mk h5
        clear hl h5 hpl' hxk hxb hR hlen hat hgb hG hI hz h1 h3
        gi_wp2
        refine ⟨fun h => (by cases h), (RoundIn.within hR2).mono ?_⟩
        have ecv : ∀ xs : List AX, pre ++ (xs ++ [(⟨xk, xA, xc, xb⟩ : AX)]).map (cv pf) = pre ++ xs.map (cv pf) ++ [⟨pf + xk, xA, xc, xb⟩] := fun xs => by simp [cv]
        have hsz8 : w.heap.size ≤ w8.heap.size := by have := HSB5.out; have := HSZ.out; omega
        rintro e W3 (⟨rfl, hJ3, hk3, hg3, hkf3⟩ | ⟨rfl, hJx3, hkf3⟩)
        · have R1 := Aa.mk (KeepsFrom.up hkf3 hsz8)
          have R2 : Aa (KpD (fun k => w5.heap.size ≤ k ∧ k < w8.heap.size) W W3) := ⟨hk3.1, fun k hk => hg3 k (.inr (.inr (.inr (.inr (.inr (.inr hk))))))⟩
          have R3 : Aa (∀ k, Gi k → W3.heap[k]? = W.heap[k]?) := ⟨fun k hk => hg3 k (.inr (.inr (.inr (.inr (.inr (.inl hk))))))⟩
          have R4 : Aa (Gc D J w00 w l₀ b3 (Bof b5 w8.heap.size w5.heap.size Gi) (pre ++ (pre' ++ [(⟨xk, xA, xc, xb⟩ : AX)]).map (cv pf)) Ds (fun k => k = b3 ∨ k ∈ Ds ∨ Bof b5 w8.heap.size w5.heap.size Gi k) W3 W3) := ⟨{
            box3 := (hg3 b3 (.inl rfl)).trans HL.out.box3
            told := by rw [ecv]; exact hJ3
            grown := Dt.refl _ _
            own := fun k hk => (HGB.out k hk).1
            fresh := fun k hk => .inl hk
            kept := HL.out.kept.trans hk3
            wp := Nat.le_trans HL.out.size hk3.1
            low := HL.out.low
            nodup := HL.out.nodup
            marks := fun k hk => ⟨(HL.out.marks k hk).1, (hg3 k (.inr (.inl hk))).trans (HL.out.marks k hk).2⟩ }⟩
          have R5 := Aa.mk ((hg3 b5 (.inr (.inr (.inl rfl)))).trans H5.out)
          clear hJ3 hk3 hg3 hkf3 hR2 hy ecv hsz8
          gi_wp2
          exact ⟨R1.out, ⟨R2.out, R3.out⟩, _, _, R4.out, R5.out⟩
        · have R1 := Aa.mk (KeepsFrom.up hkf3 hsz8)
          have R2 : Aa (Jx (fun k => k = b3 ∨ k ∈ Ds ∨ Bof b5 w8.heap.size w5.heap.size Gi k) (pre ++ (pre' ++ [(⟨xk, xA, xc, xb⟩ : AX)]).map (cv pf)) W3) := ⟨by rw [ecv]; exact hJx3⟩
          have R3 : Aa (∀ k ∈ Ds, W3.heap[k]? = some (.deferred (some []))) := ⟨fun k hk => hkf3.same k _ (HL.out.marks k hk).1 (HL.out.marks k hk).2 rfl⟩
          clear hJx3 hkf3 hR2 hy ecv hsz8
          gi_wp2
          exact ⟨R1.out, rfl, R2.out, R3.out⟩
      case hdone =>
        rintro M Gi ys W9 hM hys ⟨G0', Wp', hl, h5⟩ hMd
        have h1 := HSB5.out
        have h3 := HSZ.out
        have HLM := Aa.mk (hl.mark hMd (.inr (.inl hM)) (by omega) (fun hd => by have := h1.2.2.2 M (.inr hd); omega))
        have hwi : wrap64 ((i : Int) + 1) = (i : Int) + 1 := w64o (by omega) (by have := HIL.out; have := HSL.out; omega)
        have HYS := Aa.mk (show ys.length = N from hys)
        clear hl h5 hMd hys hM h1 h3
        gi_wp2
        try go_wp2
        rw [hwi]
        have hlen : (pre ++ ys.map (cv pf)).length = pre.length + N := by have := HYS.out; simp; omega
        have hdr : all.drop (pre.length + N) = rest' := by
          rw [← List.drop_drop, HREST.out, HRS.out, List.drop_append_of_le_length (by simp), List.drop_of_length_le (by simp), List.nil_append]
        have hle : pre.length + N ≤ all.length := by
          have h1 := HPL.out
          have h2 := congrArg List.length HREST.out
          rw [HRS.out] at h2
          simp at h2
          omega
        refine ⟨⟨i + 1, pre ++ ys.map (cv pf), rest', M :: Ds, G0', Wp', rfl, ⟨by have := HIL.out; omega, HNX.out, by rw [hlen]; exact hdr, by rw [hlen]; exact hle⟩, HLM.out⟩, ?_⟩
        have := HIL.out
        show ((ss.length : Int) - ((i : Int) + 1)).toNat < ((ss.length : Int) - (i : Int)).toNat
        omega
      case hstop =>
        rintro M c Gi pre' W9 hM hGi hSp ⟨rfl, hjx, hmk⟩ hMd
        have h1 := HSB5.out
        have h3 := HSZ.out
        have h4 := LI8.out.low
        have h5 := LI8.out.marks
        have HJX9 := Aa.mk hjx
        have HSP := Aa.mk hSp
        have HND := Aa.mk (show (M :: Ds).Nodup from List.nodup_cons.2 ⟨fun hd => by have := h1.2.2.2 M (.inr hd); omega, LI8.out.nodup⟩)
        have HMK := Aa.mk (show ∀ k ∈ M :: Ds, W9.heap[k]? = some (.deferred (some [])) from fun k hk => by
          rcases List.mem_cons.1 hk with rfl | hk
          · exact hMd
          · exact hmk k hk)
        have hle : pre.length + N ≤ all.length := by
          have h1 := HPL.out
          have h2 := congrArg List.length HREST.out
          rw [HRS.out] at h2
          simp at h2
          omega
        have HLE := Aa.mk hle
        have HMW := Aa.mk hM
        have hown : ∀ k, (k = b3 ∨ k ∈ Ds ∨ Bof b5 w8.heap.size w5.heap.size Gi k) → w.heap.size ≤ k := fun k hk => by
          rcases hk with rfl | hk | hk | hk | hk | hk | hk
          · exact h4
          · exact (h5 k hk).1
          · omega
          · omega
          · omega
          · have := hGi k hk; omega
          · omega
        have HOWN := Aa.mk hown
        clear hown hGi
        clear hjx hSp hmk hMd hM h1 h3 h4 h5 hle
        gi_wp2
        try refine Io ?_
        refine Fu (M := fun k => k = b3 ∨ k ∈ Ds ∨ Bof b5 w8.heap.size w5.heap.size Gi k) (X := fun W => Jx (fun k => k = b3 ∨ k ∈ Ds ∨ Bof b5 w8.heap.size w5.heap.size Gi k) (pre ++ pre'.map (cv pf)) W) ?_ ?_ (M :: Ds) _ HND.out ?_ HJX9.out
        · exact fun W k hx hM2 _ => HJX.out _ _ _ _ _ hx HOWN.out (Dt.put (G := fun k => k = b3 ∨ k ∈ Ds ∨ Bof b5 w8.heap.size w5.heap.size Gi k) hM2 _) (fun k h => .inl h)
        · exact fun W hx => ⟨_, results_none rfl _ _ _, ⟨_, rfl⟩, _, HOWN.out, .inr ⟨_, ⟨by have := HSP.out; simp; omega, by have := HSP.out; have := HLE.out; simp; omega⟩, hx⟩⟩
        · intro k hk
          refine ⟨?_, HMK.out k hk⟩
          rcases List.mem_cons.1 hk with rfl | hk
          · exact .inr (.inr (.inr (.inl HMW.out)))
          · exact .inr (.inl hk)
  · have cd1 : decide ((i : Int) < (ss.length : Int)) = false := decide_eq_false (by omega)
    have cd2 : decide (i < ss.length) = false := decide_eq_false hil
    rw [List.drop_of_length_le (by omega)] at hcf
    have hcf : rest = [] := hcf
    have hfin : pre.length = all.length := by
      have := HREST.out
      rw [hcf] at this
      have := List.drop_eq_nil_iff.1 this
      have := HPL.out
      omega
    have HFIN := Aa.mk hfin
    clear hi hil hcf hfin
    go_wp2
    refine Io ?_
    have hgl : ∀ k, (k = b3 ∨ k ∈ Ds) → w.heap.size ≤ k := fun k hk => by
      rcases hk with rfl | hk
      · exact LI.out.low
      · exact (LI.out.marks k hk).1
    refine Fu (M := fun k => k = b3 ∨ k ∈ Ds) (X := fun W => J (fun k => k = b3 ∨ k ∈ Ds) pre W) ?_ ?_ Ds _ LI.out.nodup ?_ (HJ.out _ _ _ _ _ LI.out.told LI.out.own LI.out.grown (fun k hk => LI.out.fresh k (by rcases hk with hk | hk; exact .inl hk; exact .inr (.inl hk))))
    · exact fun W k hx hM _ => HJ.out _ _ _ _ _ hx hgl (Dt.put (G := fun k => k = b3 ∨ k ∈ Ds) hM _) (fun k h => .inl h)
    · exact fun W hx => ⟨_, results_none rfl _ _ _, ⟨_, rfl⟩, (fun k => k = b3 ∨ k ∈ Ds), hgl, .inl ⟨_, HFIN.out, hx⟩⟩
    · exact fun k hk => ⟨.inr hk, (LI.out.marks k hk).2⟩
end Go.Proofs.I
end
section
namespace Go.Proofs.I
open Go.RowKit Go.Shelf Go.Proofs.Zw.PrintWords Go.Proofs.Zw.PrintLast Go.Proofs.Zw.PrintMore
set_option linter.unusedVariables false
set_option linter.unusedSimpArgs false
section
open Go.Sort
abbrev SE := S44 × Option Addr × Nat
def Bu.enc (x : SE) : List Value := [.slice x.2.1 x.1.f0.length x.2.2, .int .i64 x.1.f1]
instance : Inhabited SE := ⟨(z44, none, 0)⟩
def Bu.ok (l0 : List S44) : Bool := decide (l0.length < 8796093022208) && decide (l0.Pairwise fun x y => x.f1 ≠ y.f1)
def Bu.f (l0 : List S44) : Option (List S44) := if Bu.ok l0 = true then some (l0.mergeSort fun x y => decide (x.f1 ≤ y.f1)) else none
theorem Bu.uniq : ∀ {a b : List S44}, a.Perm b → a.Pairwise (fun x y => x.f1 < y.f1) → b.Pairwise (fun x y => x.f1 < y.f1) → a = b
  | [], b, hp, _, _ => (List.nil_perm.1 hp).symm
  | x :: a, [], hp, _, _ => absurd hp.length_eq (by simp)
  | x :: a, y :: b, hp, ha, hb => by
    have ha' := List.pairwise_cons.1 ha
    have hb' := List.pairwise_cons.1 hb
    have e : x = y := by
      rcases List.mem_cons.1 (hp.subset List.mem_cons_self) with e | hx
      · exact e
      · rcases List.mem_cons.1 (hp.symm.subset List.mem_cons_self) with e | hy
        · exact e.symm
        · have h1 := hb'.1 x hx
          have h2 := ha'.1 y hy
          omega
    subst e
    rw [Bu.uniq (List.Perm.cons_inv hp) ha'.2 hb'.2]
theorem Bu.merge {l r : List S44} (h : Bu.f l = some r) : l.length < 8796093022208 ∧ r.Perm l ∧ r.Pairwise (fun x y => x.f1 < y.f1) ∧ l.Pairwise (fun x y => x.f1 ≠ y.f1) := by
  unfold Bu.f at h
  split at h
  · rename_i ho
    simp only [Bu.ok, Bool.and_eq_true, decide_eq_true_eq] at ho
    obtain rfl := Option.some.inj h
    have hp := List.mergeSort_perm l (fun x y => decide (x.f1 ≤ y.f1))
    have hs : (l.mergeSort fun x y => decide (x.f1 ≤ y.f1)).Pairwise (fun x y => decide (x.f1 ≤ y.f1) = true) := List.pairwise_mergeSort (fun a b c h1 h2 => by simp only [decide_eq_true_eq] at *; omega) (fun a b => by simp only [Bool.or_eq_true, decide_eq_true_eq]; omega) l
    have hd := (hp.pairwise_iff (R := fun x y : S44 => x.f1 ≠ y.f1) (fun h => Ne.symm h)).2 ho.2
    refine ⟨ho.1, hp, (hs.and hd).imp ?_, ho.2⟩
    rintro a b ⟨h1, h2⟩
    simp only [decide_eq_true_eq] at h1
    omega
  · cases h
theorem Bu.lt_iff (x y : SE) : ltOf (fun x y : SE => Lib.compareInt x.1.f1 y.1.f1) x y = decide (x.1.f1 < y.1.f1) := by
  unfold ltOf Lib.compareInt
  by_cases h1 : x.1.f1 < y.1.f1
  · simp [h1]
  · by_cases h2 : y.1.f1 < x.1.f1 <;> simp [h1, h2]
theorem Bu.swo : Go.Sort.SWO (ltOf fun x y : SE => Lib.compareInt x.1.f1 y.1.f1) where
  irrefl x := by rw [Bu.lt_iff]; simp
  trans x y z h1 h2 := by rw [Bu.lt_iff] at *; simp at *; omega
  ntrans x y z h1 h2 := by rw [Bu.lt_iff] at *; simp at *; omega
theorem Bu.spec (l : List SE) : (Go.Sort.pdq (ltOf fun x y : SE => Lib.compareInt x.1.f1 y.1.f1) l.toArray 0 l.toArray.size (Lib.bitLen l.toArray.size) true true).toList.Perm l ∧ (Go.Sort.pdq (ltOf fun x y : SE => Lib.compareInt x.1.f1 y.1.f1) l.toArray 0 l.toArray.size (Lib.bitLen l.toArray.size) true true).toList.Pairwise (fun x y => x.1.f1 ≤ y.1.f1) := by
  have hs := Go.Sort.pdq_sorts _ Bu.swo l.toArray 0 l.toArray.size (Lib.bitLen l.toArray.size) true true (Nat.zero_le _) (Nat.le_refl _) (Or.inl rfl)
  generalize Go.Sort.pdq (ltOf fun x y : SE => Lib.compareInt x.1.f1 y.1.f1) l.toArray 0 l.toArray.size (Lib.bitLen l.toArray.size) true true = d at hs ⊢
  obtain ⟨⟨hsz, _, hperm⟩, hsorted⟩ := hs
  refine ⟨?_, ?_⟩
  · have e1 : d.extract 0 l.toArray.size = d := by rw [← hsz]; simp
    have e2 : l.toArray.extract 0 l.toArray.size = l.toArray := by simp
    rw [e1, e2] at hperm
    simpa using hperm
  · rw [List.pairwise_iff_getElem]
    intro i j hi hj hij
    have hj' : j < d.size := by simpa using hj
    have hi' : i < d.size := by simpa using hi
    have := hsorted i j (Nat.zero_le _) hij (by rw [← hsz]; exact hj')
    rw [Bu.lt_iff, getElem!_pos d i hi', getElem!_pos d j hj'] at this
    simp at this
    simpa using this
theorem Bu.is {l r : List S44} (h : Bu.f l = some r) (d : List SE) (hd : d.map Prod.fst = l) : ((Go.Sort.pdq (ltOf fun x y : SE => Lib.compareInt x.1.f1 y.1.f1) d.toArray 0 d.toArray.size (Lib.bitLen d.toArray.size) true true).toList).map Prod.fst = r := by
  obtain ⟨_, h1, h2, h3⟩ := Bu.merge h
  obtain ⟨s1, s2⟩ := Bu.spec d
  generalize (Go.Sort.pdq (ltOf fun x y : SE => Lib.compareInt x.1.f1 y.1.f1) d.toArray 0 d.toArray.size (Lib.bitLen d.toArray.size) true true).toList = q at s1 s2 ⊢
  have hp : (q.map Prod.fst).Perm l := by rw [← hd]; exact s1.map _
  refine Bu.uniq (hp.trans h1.symm) ?_ h2
  have hn := (hp.pairwise_iff (R := fun x y : S44 => x.f1 ≠ y.f1) (fun h => Ne.symm h)).2 h3
  have hs : (q.map Prod.fst).Pairwise (fun x y => x.f1 ≤ y.f1) := by rw [List.pairwise_map]; exact s2
  refine (hs.and hn).imp ?_
  rintro a b ⟨u, v⟩
  omega
theorem Bu.pairs {W : World} {ok : Nat → Prop} : ∀ (l0 : List S44) (rows : List (List Value)), rows.length = l0.length → (∀ (j : Nat) (x : S44) (c : List Value), l0[j]? = some x → rows[j]? = some c → Kd.FK k44 W ok x c) → ∃ d : List SE, d.map Prod.fst = l0 ∧ rows = d.map Bu.enc ∧ ∀ x ∈ d, Kd.FK k44 W ok x.1 (Bu.enc x)
  | [], rows, hl, _ => ⟨[], rfl, by rw [List.eq_nil_of_length_eq_zero hl]; rfl, fun x hx => by cases hx⟩
  | p :: t, [], hl, _ => absurd hl (by simp)
  | p :: t, c :: rows, hl, h => by
    obtain ⟨d, d1, d2, d3⟩ := Bu.pairs t rows (by simpa using hl) (fun j x c hx hc => h (j + 1) x c (by simpa using hx) (by simpa using hc))
    have hf := h 0 p c rfl rfl
    obtain ⟨A0, c0, e, _⟩ := k44_open (Kd.FK_now hf)
    refine ⟨(p, A0, c0) :: d, by simp [d1], by rw [e, d2]; rfl, fun x hx => ?_⟩
    rcases List.mem_cons.1 hx with rfl | hx
    · show Kd.FK k44 W ok p [.slice A0 p.f0.length c0, .int .i64 p.f1]
      rw [← e]; exact hf
    · exact d3 x hx
end
end Go.Proofs.I
end
section
namespace Go.Proofs.I
open Go.RowKit Go.Shelf Go.Proofs.Zw.PrintWords Go.Proofs.Zw.PrintLast Go.Proofs.Zw.PrintMore
set_option linter.unusedVariables false
set_option linter.unusedSimpArgs false
section
open Go.Sort
theorem Kz.closure (x y : SE) (W : World) : Calls Tryz.prog 60 #[.agg (Bu.enc x).toArray, .agg (Bu.enc y).toArray] W fun e w' => e = .returned (.int .i64 (Lib.compareInt x.1.f1 y.1.f1)) ∧ ∃ q os', w' = Go.Sort.grow (W.drewN q) os' := by
  have hcon := fun W' => AnyG.cmp_Compare_int Tryz.cmpInt x.1.f1 y.1.f1 W'
  change ∀ W', Calls Tryz.prog 61 _ _ _ at hcon
  show Calls Tryz.prog 60 #[.agg #[.slice x.2.1 x.1.f0.length x.2.2, .int .i64 x.1.f1], .agg #[.slice y.2.1 y.1.f0.length y.2.2, .int .i64 y.1.f1]] W _
  generalize Lib.compareInt x.1.f1 y.1.f1 = r at hcon ⊢
  generalize x.1.f0.length = n1
  generalize y.1.f0.length = n2
  go_enter Tryz.func60, Tryz.ntmps60
  go_wp2_with (go_at_call 61; refine (hcon _).mono ?_; rintro e w' ⟨rfl, rfl⟩)
  go_ret
  exact ⟨rfl, 0, _, by rw [Go.Sort.alloc_eq_grow, Go.Sort.alloc_eq_grow, Go.Sort.grow_grow]; rfl⟩
theorem Kz.calls {ok : Nat → Prop} (u9000_ : Value) (l0 : List S44) (r : List S44) (w0 w : World) (hB : Below w0.heap.size w0 w) (ho0 : Kd.N k44 44 w w0.heap.size ok u9000_ l0) (h : Bu.f l0 = some r) :
    Calls Tryz.prog 59 #[u9000_, .func (.func 60) #[] #[]] w fun e w' => e = .returned (.tuple #[]) ∧ Kd.N k44 44 w' w0.heap.size ok u9000_ r ∧ Below w0.heap.size w0 w' ∧ Kept w w' (fun k_ => some k_ = u9000_.ownBlock) := by
  have hk : ∀ x : SE, (Bu.enc x).length = 2 := fun _ => rfl
  have hcell : ∀ x : SE, ∀ v ∈ Bu.enc x, v.oneCell' = true := fun x v hv => by simp [Bu.enc] at hv; rcases hv with rfl | rfl <;> rfl
  have hsm := (Bu.merge h).1
  obtain ⟨hok0, rows, hl, hR, hf⟩ := ho0
  obtain ⟨d, d1, d2, d3⟩ := Bu.pairs l0 rows hl hf
  obtain ⟨_, inner, ho, hr⟩ := hR
  have hdl : d.length = l0.length := by rw [← d1, List.length_map]
  have ho' : w.ownsRow w0.heap.size 44 2 u9000_ l0.length inner := by rw [← hl]; exact ho
  have hr' : Reps (fun (x : SE) cs => cs = Bu.enc x) 2 d inner := ⟨by have := hr.1; rw [d2, List.length_map] at this; exact this, fun j x hx => (hr.2 j (Bu.enc x) (by rw [d2, List.getElem?_map, hx]; rfl)).1⟩
  have hflat := SortW.flat_of_reps (fun _ _ e => e) hk hr'
  have hpm := Bu.spec d
  have his := Bu.is h d d1
  rcases ho'.2 with ⟨hu, hn⟩ | ⟨g, cap, cur, hu, hg, hh, _, hcap, _⟩
  · obtain rfl : l0 = [] := List.eq_nil_of_length_eq_zero hn
    obtain rfl : r = [] := List.eq_nil_of_length_eq_zero (by have := (Bu.merge h).2.1.length_eq; simpa using this)
    subst hu
    refine (AnyF.slices_SortFunc_none Tryz.sortShapeL none 0 (.func (.func 60) #[] #[]) w).mono ?_
    rintro e w' ⟨rfl, rfl⟩
    exact ⟨rfl, Kd.N_nil _ _ _ _ _, hB, Kept.refl _ _⟩
  · subst hu
    have hH := SortW.holds_of_own ho' hdl.symm hflat
    have hlt : g < w.heap.size := (Array.getElem?_eq_some_iff.1 hh).1
    have hsz : d.toArray.size < 4611686018427387904 := by rw [List.size_toArray]; omega
    have hcon := AnyQ.slices_SortFunc_eq Tryz.sortShapeL 2 Tryz.isAgg44 Tryz.sizeOf44 Bu.enc hk hcell (fun x y : SE => Lib.compareInt x.1.f1 y.1.f1) Bu.swo 60 #[] g 0 cap d.toArray w
      (enters_of Tryz.func60 (by kernel_rfl) rfl) (fun _ _ _ _ x y => Kz.closure x y _) hH hlt hsz
    refine (show Calls Tryz.prog 59 #[.slice (some ⟨g, 0, none⟩) l0.length cap, .func (.func 60) #[] #[]] w _ from by rw [← hdl]; exact hcon).mono ?_
    rintro e w' ⟨rfl, n, os, rfl⟩
    generalize Go.Sort.pdq (ltOf fun x y : SE => Lib.compareInt x.1.f1 y.1.f1) d.toArray 0 d.toArray.size (Lib.bitLen d.toArray.size) true true = q at hpm his ⊢
    have hds : q.size = l0.length := by rw [← hdl]; simpa using hpm.1.length_eq
    have hql : q.toList.length = l0.length := by simpa using hds
    have hrl : r.length = l0.length := by rw [← his, List.length_map]; exact hql
    have hflat' := SortW.reps_of_flat (R := fun (x : SE) cs => cs = Bu.enc x) (enc := Bu.enc) (k := 2) (fun _ => rfl) hk q.toList
    refine ⟨rfl, ⟨hok0, q.toList.map Bu.enc, by rw [List.length_map, hql, hrl], ⟨fun k hk => hk.symm, (Go.Sort.flatK Bu.enc 2 q).toList, ?_, ⟨by have := hflat'.1; rw [List.length_map]; exact this, fun j p hp => ?_⟩⟩, fun j x c hx hc => ?_⟩, SortW.below_sorted hB hB.size Bu.enc 2 g n hg q os, SortW.kept_sorted w Bu.enc 2 g n q os _ rfl⟩
    · have := SortW.own_sorted (enc := Bu.enc) ho' n q os hds
      rw [List.length_map, hql]
      exact this
    · rw [List.getElem?_map] at hp
      obtain ⟨x, hx, rfl⟩ := Option.map_eq_some_iff.1 hp
      have e : List.take (Kd.raw k44.sz).sz (List.drop (j * (Kd.raw k44.sz).sz) (Go.Sort.flatK Bu.enc 2 q).toList) = Bu.enc x := hflat'.2 j x hx
      rw [e]
      exact ⟨rfl, rfl, hcell x⟩
    · rw [← his, List.getElem?_map] at hx
      obtain ⟨z, hz, rfl⟩ := Option.map_eq_some_iff.1 hx
      rw [List.getElem?_map, hz] at hc
      obtain rfl := Option.some.inj hc
      have hzd : z ∈ d := hpm.1.subset (List.mem_of_getElem? hz)
      exact Kd.FK_step (d3 z hzd) (fun k hk hlt' => SortW.heap_sorted_other Bu.enc 2 w g n q os k hlt' (fun e => hk.2 (by rw [e]; rfl)))
end
def Fc.f (k : Nat) (ss : List S44) : Option (List S44) := (Bh.f k ss).bind fun v => if v = true then (Br.f k ss).bind fun c => Bu.f c else some []
set_option maxHeartbeats 4000000 in
set_option maxRecDepth 100000 in
theorem Fc.calls (k : Nat) (A0 : Option Addr) (c0 : Nat) (ss r : List S44) (w : World) (hC : Kd.C k44 w A0 ss.length ss) (hc : ss.length ≤ c0) (h : Fc.f k ss = some r) :
    Calls Tryz.prog 38 #[.agg #[.slice A0 ss.length c0]] w fun e w' => ∃ v, e = .returned v ∧ Kd.N k44 44 w' w.heap.size (fun k => w.heap.size ≤ k) v r ∧ Below w.heap.size w w' := by
  have hu22 := Tryz.underlying22
  have hu24 := Tryz.underlying24
  have hf69 := Ml
  unfold Fc.f at h
  obtain ⟨v, hv, h⟩ := Option.bind_eq_some_iff.1 h
  have HC := Aa.mk hC
  have HCC := Aa.mk hc
  have HV := Aa.mk hv
  have hb1 : Below w.heap.size w (w.alloc (.cells #[.slice A0 ss.length c0] 24)) := (Below.refl _ w).alloc (Nat.le_refl _) _
  have BK := Aa.mk (Fl w (.cells #[.slice A0 ss.length c0] 24))
  have HB := Aa.mk hb1
  clear hC hc hv hb1
  cases v with
  | false =>
    have hr : r = [] := by simpa using h.symm
    subst hr
    clear h
    go_enter Tryz.func38, Tryz.ntmps38
    go_wp2_with (first | (go_at_call 15; refine (Bh.calls k A0 c0 ss false _ (Kd.C_below HC.out HB.out) HCC.out HV.out).mono ?_; rintro e w1 ⟨rfl, hb⟩; have n0_ := Aa.mk (Dz HB.out hb); clear HB hb; have HB := n0_; clear n0_))
    go_ret
    exact ⟨_, rfl, Kd.N_nil _ _ _ _ _, HB.out⟩
  | true =>
    rw [if_pos rfl] at h
    obtain ⟨cp, hcp, hs⟩ := Option.bind_eq_some_iff.1 h
    have HCP := Aa.mk hcp
    have HS := Aa.mk hs
    clear h hcp hs
    go_enter Tryz.func38, Tryz.ntmps38
    go_wp2_with (first
      | (go_at_call 15; refine (Bh.calls k A0 c0 ss true _ (Kd.C_below HC.out HB.out) HCC.out HV.out).mono ?_; rintro e w1 ⟨rfl, hb⟩; have n0_ := Aa.mk (Dz HB.out hb); have n1_ := Aa.mk (Ce BK.out hb); clear HB BK hb; have HB := n0_; have BK := n1_; clear n0_ n1_; have hcz0 : w1.cell? ⟨w.heap.size, 0, none⟩ = some (.slice A0 ss.length c0) := (Ag BK.out 0).trans rfl)
      | (go_at_call 58; refine (Br.calls k A0 c0 ss cp _ (Kd.C_below HC.out HB.out) HCC.out HCP.out).mono ?_; rintro e w2 ⟨v2, rfl, ho, hb⟩; have HO := Aa.mk (Kd.N_mono (Kd.R_N (Kd.R_lower (Kd.R_bound ho) HB.out.size)) (ok' := fun k => w.heap.size ≤ k) (fun k hk => Nat.le_trans HB.out.size hk.2.1)); have n0_ := Aa.mk (Dz HB.out hb); clear HB hb ho; have HB := n0_; clear n0_)
      | (go_at_call 59; refine (Kz.calls v2 cp r w _ HB.out HO.out HS.out).mono ?_; rintro e w3 ⟨rfl, ho, hb, _⟩; have HO3 := Aa.mk ho; clear HB ho; have HB := Aa.mk hb; clear hb))
    go_ret
    exact ⟨_, rfl, HO3.out, HB.out⟩
set_option maxHeartbeats 4000000 in
set_option maxRecDepth 100000 in
theorem Vb.calls (k : Nat) (A0 : Option Addr) (c0 : Nat) (ss r : List S44) (fr : Int) (w : World) (hC : Kd.C k44 w A0 ss.length ss) (hc : ss.length ≤ c0) (h : Fc.f k ss = some r) :
    Calls Tryz.prog 21 #[.agg #[.slice A0 ss.length c0], .int .i64 fr] w fun e w' => ∃ gl gf A c, e = .returned (.func (.func 39) #[] #[.pointer (some ⟨gl, 0, none⟩), .pointer (some ⟨gf, 0, none⟩)]) ∧
      (∀ W', KpD (fun k => w.heap.size ≤ k ∧ k < w'.heap.size) w' W' → W'.heap[gl]? = some (.cells #[.slice A r.length c] 22 (0, 0)) ∧ W'.heap[gf]? = some (.cells #[.int .i64 fr] 3 (0, 0)) ∧ Kd.C k44 W' A r.length r) ∧ Below w.heap.size w w' := by
  have hu22 := Tryz.underlying22
  have hu24 := Tryz.underlying24
  have HC := Aa.mk hC
  have HCC := Aa.mk hc
  have HH := Aa.mk h
  have hb1 : Below w.heap.size w ((w.alloc (.cells #[.slice A0 ss.length c0] 24)).alloc (.cells #[.int .i64 fr] 3)) := ((Below.refl _ w).alloc (Nat.le_refl _) _).alloc (by simp) _
  have HB := Aa.mk hb1
  have BF := Aa.mk (Ir w (.cells #[.slice A0 ss.length c0] 24) (.cells #[.int .i64 fr] 3))
  clear hC hc h hb1
  go_enter Tryz.func21, Tryz.ntmps21
  go_wp2_with (first
    | (go_at_call 38; refine (Fc.calls k A0 c0 ss r _ (Kd.C_below HC.out HB.out) HCC.out HH.out).mono ?_; rintro e w1 ⟨v, rfl, ho, hb⟩; obtain ⟨Ao, co, eo⟩ := Kd.N_slice ho; subst eo; have HO := Aa.mk ho; have HB1 := Aa.mk hb; clear ho hb))
  go_ret
  have hb2 : Below w1.heap.size w1 (w1.alloc (.cells #[.slice Ao r.length co] 22)) := (Below.refl _ w1).alloc (Nat.le_refl _) _
  have hs0 : w.heap.size ≤ ((w.alloc (.cells #[.slice A0 ss.length c0] 24)).alloc (.cells #[.int .i64 fr] 3)).heap.size := HB.out.size
  refine ⟨w1.heap.size, w.heap.size + 1, Ao, co, rfl, fun W' hk => ?_, Dz (Dz HB.out HB1.out) hb2⟩
  have hs1 := HB1.out.size
  have hl := Fx (Fl w1 (.cells #[.slice Ao r.length co] 22))
  have hf := Ce (Ce BF.out HB1.out) hb2
  have ho2 := Kd.N_below (Kd.N_bound HO.out) hb2
  refine ⟨(hk.2 w1.heap.size ⟨by omega, hl⟩).trans (Fl w1 _), (hk.2 (w.heap.size + 1) ⟨by omega, Fx hf⟩).trans hf, ?_⟩
  exact (Kd.N_reads' (Kd.N_step ho2 (w1 := W') (fun k h1 h2 => hk.2 k ⟨Nat.le_trans hs0 h1.1, h2⟩))).2.2
theorem cod_seq (n : Nat) (hn : 4 ≤ n) {k gl gf : Nat} {A : Option Addr} {c : Nat} {ss : List S44} {fr : Int} {all : List (Int × List Int)} (hF : CodF k fr ss all) {D : Nat → Prop} {w0 : World} (hDw : ∀ k, D k → k < w0.heap.size) (hfr : fr ≤ 9223372036854775807) (hsl : ss.length ≤ 4611686018427387904)
    (hD : ∀ W', KpD D w0 W' → W'.heap[gl]? = some (.cells #[.slice A ss.length c] 22 (0, 0)) ∧ W'.heap[gf]? = some (.cells #[.int .i64 fr] 3 (0, 0)) ∧ Kd.C k44 W' A ss.length ss) :
    SeqH Fence.wide n Tryz.prog 39 #[.pointer (some ⟨gl, 0, none⟩), .pointer (some ⟨gf, 0, none⟩)] encA (RdC all) (KpD D) (fun xs => xs.length = all.length) (fun pre => 1 ≤ pre.length ∧ pre.length ≤ all.length) w0 :=
  fun l₀ J Jx W hW hJ hJx h0 hY => cod1_in n l₀ hn k gl gf A c ss fr all D w0 W hW hDw hD hfr hsl hF J Jx hJ hJx h0 hY
end Go.Proofs.I
end
section
namespace Go.Proofs.I
open Go.RowKit Go.Shelf Go.Proofs.Zw.PrintWords Go.Proofs.Zw.PrintLast Go.Proofs.Zw.PrintMore
set_option linter.unusedVariables false
set_option linter.unusedSimpArgs false
attribute [local go_sem] Oper.semAt_some
def nxC (all : List (Int × List Int)) (i : Nat) : Int × Bool := match all[i]? with | some x => (x.1, true) | none => (0, false)
def EnvN (W : World) (b : Nat) (x : Int) (y : Bool) : Prop := W.heap[b + 1]? = some (.cells #[.int .i64 x] 3 (0, 0)) ∧ W.heap[b + 1 + 1]? = some (.cells #[.bool y] 4 (0, 0))
theorem EnvN.below {W W' : World} {b : Nat} {x : Int} {y : Bool} (h : EnvN W b x y) (hb : Below W.heap.size W W') : EnvN W' b x y := ⟨Ce h.1 hb, Ce h.2 hb⟩
theorem EnvN.cells {W : World} {b : Nat} {x : Int} {y : Bool} (h : EnvN W b x y) : W.cell? ⟨b + 1, 0, none⟩ = some (.int .i64 x) ∧ W.cell? ⟨b + 1 + 1, 0, none⟩ = some (.bool y) ∧ W.frozen? ⟨b + 1, 0, none⟩ = false ∧ W.frozen? ⟨b + 1 + 1, 0, none⟩ = false :=
  ⟨(Ag h.1 0).trans rfl, (Ag h.2 0).trans rfl, Ac h.1 0, Ac h.2 0⟩
theorem EnvN.moved {W W' : World} {b : Nat} {x : Int} {y : Bool} (h : EnvN W b x y) (hk : ∀ k o, W.heap[k]? = some o → k ≤ b + 1 + 1 → W'.heap[k]? = W.heap[k]?) : EnvN W' b x y :=
  ⟨(hk _ _ h.1 (by omega)).trans h.1, (hk _ _ h.2 (by omega)).trans h.2⟩
theorem EnvN.step {W : World} {b : Nat} {x : Int} {y : Bool} (h : EnvN W b x y) (x' : Int) (y' : Bool) : EnvN ((W.setCell ⟨b + 1, 0, none⟩ (.int .i64 x')).setCell ⟨b + 1 + 1, 0, none⟩ (.bool y')) b x' y' :=
  ⟨Iq (Na h.1 _) (by omega) _, Na (Iq h.2 (by omega) _) _⟩
def TMN (b : Nat) (v : Value) (u : Nat → Value) : Array Value :=
  #[u 0, u 1, u 2, u 3, .pointer (some ⟨b + 1, 0, none⟩), .pointer (some ⟨b + 1 + 1, 0, none⟩), v, u 7, u 8, u 9, u 10, u 11, u 12]
set_option maxRecDepth 100000 in
set_option maxHeartbeats 8000000 in
theorem codNext.go (k kc : Nat) (A0 : Option Addr) (c0 : Nat) (ss r : List S44) (fr : Int) (all : List (Int × List Int)) (w : World) (hr0 : Kd.C k44 w A0 ss.length ss) (hc0 : ss.length ≤ c0)
    (hri : Fc.f k ss = some r) (hF : CodF kc fr r all) (hfr : fr ≤ 9223372036854775807) (hrl : r.length ≤ 4611686018427387904) :
    Calls Tryz.prog 10 #[.agg #[.slice A0 ss.length c0], .int .i64 fr] w fun e w' => e = .returned (.tuple #[.int .i64 (nxC all 0).1, .bool (nxC all 0).2]) ∧ Below w.heap.size w w' := by
  have hu24 := Tryz.underlying24
  have HR := Aa.mk hr0
  have HC := Aa.mk hc0
  have HRI := Aa.mk hri
  have HF := Aa.mk hF
  have HFR := Aa.mk hfr
  have HRL := Aa.mk hrl
  clear hr0 hc0 hri hF hfr hrl
  have B1 := Aa.mk (Be (Ir w (.cells #[.slice A0 ss.length c0] 24) (.cells #[.int .i64 0] 3)) (.cells #[.bool false] 4))
  have B2 := Aa.mk (Ir (w.alloc (.cells #[.slice A0 ss.length c0] 24)) (.cells #[.int .i64 0] 3) (.cells #[.bool false] 4))
  have HB := Aa.mk (Ct (Ct (Ct (Below.refl w.heap.size w) (.cells #[.slice A0 ss.length c0] 24)) (.cells #[.int .i64 0] 3)) (.cells #[.bool false] 4))
  simp only [World.size_alloc, Nat.add_assoc, Nat.reduceAdd] at B2
  refine (callsIn_wide (n := 6)).1 ?_
  refine callsIn_of_wp_marks Tryz.func10 rfl trivial ?_
  simp only [Tryz.ntmps10, List.size_toArray, List.length_cons, List.length_nil, Nat.reduceAdd, Nat.reduceSub, Array.replicate_succ, Array.replicate_zero, List.push_toArray, List.append_toArray, List.nil_append, List.cons_append]
  refine wpIn_wide.2 ?_
  go_wp2_with (first
    | (go_at_call 21; refine (Vb.calls k A0 c0 ss r fr _ (Kd.C_below HR.out HB.out) HC.out HRI.out).mono ?_; rintro e w4 ⟨gl, gf, A3, c3, rfl, hD3, hb⟩; have HD3 := Aa.mk hD3; have H64 := Aa.mk hb; clear hb hD3))
  have HE6 : Aa (EnvN (((w.alloc (.cells #[.slice A0 ss.length c0] 24)).alloc (.cells #[.int .i64 0] 3)).alloc (.cells #[.bool false] 4)) w.heap.size 0 false) := ⟨B1.out, B2.out⟩
  have HSW6 := Aa.mk (show (((w.alloc (.cells #[.slice A0 ss.length c0] 24)).alloc (.cells #[.int .i64 0] 3)).alloc (.cells #[.bool false] 4)).heap.size = w.heap.size + 3 by simp)
  clear B1 B2
  generalize hw6 : ((w.alloc (.cells #[.slice A0 ss.length c0] 24)).alloc (.cells #[.int .i64 0] 3)).alloc (.cells #[.bool false] 4) = w6 at HE6 HSW6 HB H64 HD3 ⊢
  clear hw6
  have HSW4 := Aa.mk H64.out.size
  have HE4 := Aa.mk (HE6.out.below H64.out)
  have HB4 := Aa.mk (Dz HB.out H64.out)
  clear HE6
  refine (wpIn_wide (n := 6)).1 ?_
  refine Fy (F := Fence.wide) rfl (by decide) (gf := 39) (lb := #[.pointer (some ⟨gl, 0, none⟩), .pointer (some ⟨gf, 0, none⟩)]) rfl trivial (enters_of Tryz.func39 (by kernel_rfl) rfl) (cod_seq 5 (by decide) HF.out (D := fun k => w6.heap.size ≤ k ∧ k < w4.heap.size) (w0 := w4) (fun k hk => hk.2) HFR.out HRL.out HD3.out) KpD.trans ?hKb (Below.refl _ _) (fun _ => rfl)
    (fun G pre W => EnvN W w.heap.size 0 false ∧ Below w.heap.size w W ∧ pre.length = 0)
    (fun c G pre W => c = .ret ∧ EnvN W w.heap.size (nxC all 0).1 (nxC all 0).2 ∧ Below w.heap.size w W)
    ?hI ?hIx ?hIp ?hIxp ⟨HE4.out, HB4.out, rfl⟩
    (fun G pre x a' W => a' = { tmps := TMN w.heap.size (.int .i64 x.k) (fun i => a'.tmps.getD i undef), defers := [] } ∧ all[pre.length]? = some (x.k, x.b))
    ?hAx ?hassign ?hbody ?hdone ?hstop
  case hKb =>
    intro W l_ o o' hl_ ho hc_ hw_
    exact KpD.grown (KpD.refl _ W) (grownBy_putObj' W l_ o') (fun k hk => ⟨by have := (Array.getElem?_eq_some_iff.1 ho).1; omega, fun e => by cases e; omega⟩)
  case hI =>
    rintro B hB G G' pre W W' ⟨h1, h2, h3⟩ hG hg hG'
    have hs6 := HSW6.out; have hs4 := HSW4.out
    exact ⟨h1.moved (fun k o hk hle => hg.block k (Array.getElem?_eq_some_iff.1 hk).1 (fun hgk => by have := hG k hgk; omega)), Dt.below h2 hg (fun k hgk => by have := hG k hgk; omega) h2.size, h3⟩
  case hIx =>
    rintro c B hB G G' pre W W' ⟨h0, h1, h2⟩ hG hg hG'
    have hs6 := HSW6.out; have hs4 := HSW4.out
    exact ⟨h0, h1.moved (fun k o hk hle => hg.block k (Array.getElem?_eq_some_iff.1 hk).1 (fun hgk => by have := hG k hgk; omega)), Dt.below h2 hg (fun k hgk => by have := hG k hgk; omega) h2.size⟩
  case hIp =>
    rintro G pre W l_ o o' hG ⟨h1, h2, h3⟩ hl_ ho hc_
    have hs6 := HSW6.out; have hs4 := HSW4.out
    exact ⟨h1.moved (fun k o2 hk hle => World.putObj_heap_other (fun e => by subst e; omega)), h2.grown (grownBy_putObj' W l_ o') h2.size (fun k e => by cases e; omega), h3⟩
  case hIxp =>
    rintro c G pre W l_ o o' hG ⟨h0, h1, h2⟩ hl_ ho hc_
    have hs6 := HSW6.out; have hs4 := HSW4.out
    exact ⟨h0, h1.moved (fun k o2 hk hle => World.putObj_heap_other (fun e => by subst e; omega)), h2.grown (grownBy_putObj' W l_ o') h2.size (fun k e => by cases e; omega)⟩
  case hAx =>
    rintro G pre x a' W o o' hG ⟨h1, h2⟩ ho hc_
    exact ⟨h1, h2⟩
  case hassign =>
    rintro l_ G0 G pre x Wp W K hG hG0 hWp hI0 hg0 hfr_ hI hRd hK
    unfold encA
    simp only [List.size_toArray, Array.zip, List.zip_toArray]
    gi_wp2
    exact hK _ _ (KeepsFrom.refl _ _) (KpD.refl _ _) (fun _ _ => rfl) hI ⟨rfl, hRd.1⟩
  case hbody =>
    rintro l_ G pre x_ a' W hG ⟨HE, HBW, hp0⟩ ⟨ha, hxa⟩
    generalize (fun i => a'.tmps.getD i undef) = u at ha
    subst ha
    unfold TMN
    have hnx : nxC all 0 = (x_.k, true) := by unfold nxC; rw [← hp0, hxa]
    obtain ⟨xk, xA, xc, xb⟩ := x_
    simp only at hnx ⊢
    have HNX := Aa.mk hnx
    have E := Aa.mk HE
    have BW := Aa.mk HBW
    obtain ⟨e1, e2, g1, g2⟩ := HE.cells
    have st := HE.step xk true
    obtain ⟨k1, k2, y1, y2⟩ := st.cells
    have ST := Aa.mk st
    clear HE HBW hp0 hxa hnx hG st
    gi_wp2
    exact ⟨((KeepsOthers.setCell W ⟨w.heap.size + 1, 0, none⟩ (.int .i64 xk)).from _).trans ((KeepsOthers.setCell _ ⟨w.heap.size + 1 + 1, 0, none⟩ (.bool true)).from _), rfl, by rw [HNX.out]; exact ST.out, (BW.out.setCell (p := ⟨w.heap.size + 1, 0, none⟩) (by show w.heap.size ≤ w.heap.size + 1; omega) _).setCell (p := ⟨w.heap.size + 1 + 1, 0, none⟩) (by show w.heap.size ≤ w.heap.size + 1 + 1; omega) _⟩
  case hdone =>
    rintro D G ys W hD hys ⟨hE, hBW, hp0⟩ hK
    have hnx : nxC all 0 = (0, false) := by unfold nxC; rw [List.getElem?_eq_none (by omega)]
    have HNX := Aa.mk hnx
    have BW := Aa.mk hBW
    have HK := Aa.mk hK
    have HDD := Aa.mk hD
    obtain ⟨e1, e2, g1, g2⟩ := hE.cells
    have st := hE.step 0 false
    have ST := Aa.mk st
    clear hD hys hE hBW hp0 hK hnx st
    go_wp2
    refine Je (D0 := w4.heap.size) (X := fun W => EnvN W w.heap.size 0 false ∧ Below w.heap.size w W) ?_ ?_ [D] _ (by simp) ?_ ⟨ST.out, (BW.out.setCell (p := ⟨w.heap.size + 1, 0, none⟩) (by show w.heap.size ≤ w.heap.size + 1; omega) _).setCell (p := ⟨w.heap.size + 1 + 1, 0, none⟩) (by show w.heap.size ≤ w.heap.size + 1 + 1; omega) _⟩
    · rintro W D ⟨h1, h2⟩ hD0 hd
      have hs6 := HSW6.out; have hs4 := HSW4.out
      exact ⟨h1.moved (fun k o2 hk hle => World.putObj_heap_other (fun e => by subst e; omega)), h2.grown (grownBy_putObj' W D _) h2.size (fun k e => by cases e; omega)⟩
    · rintro W ⟨h1, h2⟩
      obtain ⟨c1, c2, _, _⟩ := h1.cells
      exact ⟨.tuple #[.int .i64 0, .bool false], by simp [results, Tryz.f10, go_sem, c1, c2], by rw [HNX.out], h2⟩
    · intro D' hd
      rw [List.mem_singleton.1 hd]
      have hs6 := HSW6.out; have hs4 := HSW4.out
      exact ⟨by have := HDD.out; omega, Iq (Iq HK.out (by have := HDD.out; omega) _) (by have := HDD.out; omega) _⟩
  case hstop =>
    rintro D c G pre W hD _ hSp ⟨rfl, hE, hBW⟩ hK
    obtain ⟨⟨vx, vy⟩, hv⟩ : ∃ v, v = nxC all 0 := ⟨_, rfl⟩
    rw [← hv] at hE
    simp only at hE
    have HV := Aa.mk hv
    have BW := Aa.mk hBW
    have HK := Aa.mk hK
    have HDD := Aa.mk hD
    have E := Aa.mk hE
    obtain ⟨e1, e2, g1, g2⟩ := hE.cells
    clear hD hE hBW hK hSp hv
    refine wpIn_wide.2 ?_
    go_wp2
    refine Je (D0 := w4.heap.size) (X := fun W => EnvN W w.heap.size vx vy ∧ Below w.heap.size w W) ?_ ?_ [D] _ (by simp) ?_ ⟨E.out, BW.out⟩
    · rintro W D ⟨h1, h2⟩ hD0 hd
      have hs6 := HSW6.out; have hs4 := HSW4.out
      exact ⟨h1.moved (fun k o2 hk hle => World.putObj_heap_other (fun e => by subst e; omega)), h2.grown (grownBy_putObj' W D _) h2.size (fun k e => by cases e; omega)⟩
    · rintro W ⟨h1, h2⟩
      obtain ⟨c1, c2, _, _⟩ := h1.cells
      exact ⟨.tuple #[.int .i64 vx, .bool vy], by simp [results, Tryz.f10, go_sem, c1, c2], by rw [← HV.out], h2⟩
    · intro D' hd
      rw [List.mem_singleton.1 hd]
      exact ⟨by have := HDD.out; omega, HK.out⟩
def Dy.Good (k : Nat) (ss : List S44) (u : Int) : Prop :=
  ∃ (kc : Nat) (r : List S44) (all : List (Int × List Int)), Fc.f k ss = some r ∧ CodF kc u r all ∧ u ≤ 9223372036854775807 ∧ r.length ≤ 4611686018427387904 ∧ Ae.f k ss u = some (nxC all 0)
open Classical in
noncomputable def Dy.f (k : Nat) (ss : List S44) (u : Int) : Option (Int × Bool) := if Dy.Good k ss u then Ae.f k ss u else none
theorem Dy.calls (k : Nat) (A0 : Option Addr) (c0 : Nat) (ss : List S44) (u : Int) (r1 : Int) (r2 : Bool) (w : World) (hr0 : Kd.C k44 w A0 ss.length ss) (hc0 : ss.length ≤ c0) (hf : Dy.f k ss u = some (r1, r2)) :
    Calls Tryz.prog 10 #[.agg #[.slice A0 ss.length c0], .int .i64 u] w fun e w' => e = .returned (.tuple #[.int .i64 r1, .bool r2]) ∧ Below w.heap.size w w' := by
  unfold Dy.f at hf
  split at hf
  · next h =>
    obtain ⟨kc, r, all, h1, h2, h3, h4, h5⟩ := h
    rw [h5] at hf
    injection hf with hf
    have := codNext.go k kc A0 c0 ss r u all w hr0 hc0 h1 h2 h3 h4
    rw [hf] at this
    exact this
  · cases hf
end Go.Proofs.I
end
