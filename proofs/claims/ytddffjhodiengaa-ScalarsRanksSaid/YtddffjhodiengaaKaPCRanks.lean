/- Words and walks of this claim, of the text PCRanks. -/
import Derived.Test.YtddffjhodiengaaKaCx0
import Derived.Test.YtddffjhodiengaaKaCx5
import Derived.Test.YtddffjhodiengaaKaPCFixed
namespace Go.Proofs.Ytddffjhodiengaa.PC
open Go.RowKit Go.Proofs.YtddffjhodiengaaW.PrintWords Go.Proofs.YtddffjhodiengaaW.PrintLast Go.Proofs.YtddffjhodiengaaW.PrintMore Go.Proofs.Ytddffjhodiengaa.C Go.Proofs.LT
set_option linter.unusedVariables false
set_option linter.unusedSimpArgs false
theorem wf_i64 {x : Int} (h0 : -9223372036854775808 ≤ x) (h1 : x ≤ 9223372036854775807) : (Lit.int .i64 x).wf = true := by
  have h := wf_wrap .i64 x
  rwa [show IntKind.i64.wrap x = x from by rw [IntKind.wrap_i64]; omega] at h
theorem cd_lt_size {top : Int} {l : List Run} (hv : ValidFrom top (-2) l) {x : Int} (hx : Mem l x) : (cd (memB l) x.toNat : Int) < size l := by
  have hr := hv.range hx
  have := cd_size (n := top.toNat + 1) hv (by omega)
  have e : ((x.toNat : Nat) : Int) = x := Int.toNat_of_nonneg hr.1
  have := cd_lt (memB l) (m := x.toNat) (n := top.toNat + 1) (by omega) (by rw [e]; exact memB_iff.2 hx)
  omega
theorem Sel.is {top : Int} {l : List Run} (hv : ValidFrom top (-2) l) {k : Int} {r : Int × Bool} (h : Sel l k r) : r.2 = decide (0 ≤ k ∧ k < size l) ∧ (r.2 = true → Mem l r.1 ∧ (cd (memB l) r.1.toNat : Int) = k) ∧ (r.2 = false → r.1 = 0) := by
  rcases h with ⟨x, hx, hk, rfl⟩ | ⟨hk, rfl⟩
  · have := cd_lt_size hv hx
    exact ⟨(decide_eq_true (by omega)).symm, fun _ => ⟨hx, hk⟩, (fun h => by cases h)⟩
  · exact ⟨(decide_eq_false (by omega)).symm, (fun h => by cases h), fun _ => rfl⟩
theorem leadtraillaw04_ScalarsRanks_j1 (s : List S56) (p : Int → Prop) (hs : scalars_IsSet s p) (kk : Int) (hk : (Lit.int .i64 kk).wf = true) : Ev (fun k => leadtraillaw04_ScalarsRanks.j1 k kk s) true := by
  have hl : s.length * 16 ≤ 140737488351232 := by have := hs.2.1; omega
  have hset := setL_of hs.1
  obtain ⟨q, h1, h2⟩ := scalars_Select_is s kk hk hl
  rw [hset] at h2
  have h3 := scalars_Size_is s hl
  rw [hset] at h3
  obtain ⟨i1, i2, i3⟩ := Sel.is hs.1 h2
  obtain ⟨x, b⟩ := q
  simp only at i1 i2 i3
  have hx : (Lit.int .i64 x).wf = true := by
    cases b with
    | true => have := hs.1.range (i2 rfl).1; exact wf_i64 (by omega) (by omega)
    | false => rw [i3 rfl]; rfl
  have h4 := scalars_Rank_is s x hx hl
  rw [hset] at h4
  refine evSucc ?_
  simp only [leadtraillaw04_ScalarsRanks.j1]
  refine Ev.bind h1 ?_
  cases b with
  | true =>
    have i4 := i2 rfl
    have i5 := of_decide_eq_true i1.symm
    simp only [if_pos (show kk ≥ 0 by omega)]
    refine Ev.bind h3 ?_
    rw [decide_eq_true (show kk < size (s.map L56) by omega)]
    simp only [bne_self_eq_false, Bool.false_eq_true, if_false, if_true]
    refine Ev.bind h4 ?_
    have e : rankL (s.map L56) x = (kk, true) := by unfold rankL; rw [if_pos (memB_iff.2 i4.1), i4.2]
    rw [e]
    simp only [if_true, beq_self_eq_true]
    exact evNow _
  | false =>
    have i5 := of_decide_eq_false i1.symm
    by_cases d : kk ≥ 0
    · simp only [if_pos d]
      refine Ev.bind h3 ?_
      rw [decide_eq_false (show ¬ kk < size (s.map L56) by omega)]
      simp only [bne_self_eq_false, Bool.false_eq_true, if_false]
      refine Ev.bind h4 ?_
      exact evNow _
    · simp only [if_neg d, bne_self_eq_false, Bool.false_eq_true, if_false]
      refine Ev.bind h4 ?_
      exact evNow _
theorem leadtraillaw04_ScalarsRanks_ev (l : List S56) (x kk : Int) (hl : l.length * 16 ≤ 140737488351232) (hx : (Lit.int .i64 x).wf = true) (hk : (Lit.int .i64 kk).wf = true) : Ev (fun k => leadtraillaw04_ScalarsRanks.f k l x kk) true := by
  simp only [leadtraillaw04_ScalarsRanks.f]
  refine Ev.bind fixed04 ?_
  simp only [if_true, copied04 l hl, Option.bind_some]
  have hn := scalars_Norm_is l hl
  cases hb : l.findIdx? scalars_badP with
  | some i =>
    refine Ev.bind (hn.1 i hb) ?_
    simp only [show ¬ ((1 : Int) = 0) by omega, if_false]
    exact evNow _
  | none =>
    obtain ⟨s, h1, hs⟩ := hn.2 hb
    refine Ev.bind h1 ?_
    simp only [if_true]
    have hls : s.length * 16 ≤ 140737488351232 := by have := hs.2.1; omega
    have hset := setL_of hs.1
    have h2 := scalars_Rank_is s x hx hls
    have h3 := scalars_Has_is s x hx hls
    have h4 := scalars_Size_is s hls
    rw [hset] at h2 h3 h4
    refine Ev.bind h2 (Ev.bind h3 ?_)
    by_cases d : memB (s.map L56) x = true
    · have hc := cd_lt_size hs.1 (memB_iff.1 d)
      have e : rankL (s.map L56) x = ((cd (memB (s.map L56)) x.toNat : Int), true) := by unfold rankL; rw [if_pos d]
      rw [e, d]
      simp only [bne_self_eq_false, Bool.false_eq_true, if_false, if_true, if_neg (show ¬ ((cd (memB (s.map L56)) x.toNat : Nat) : Int) < 0 by omega)]
      refine Ev.bind h4 ?_
      rw [decide_eq_false (show ¬ ((cd (memB (s.map L56)) x.toNat : Nat) : Int) ≥ size (s.map L56) by omega)]
      refine evSucc ?_
      simp only [leadtraillaw04_ScalarsRanks.j0, Bool.false_eq_true, if_false, if_true]
      have hw : (Lit.int .i64 ((cd (memB (s.map L56)) x.toNat : Nat) : Int)).wf = true := by
        have := valid_top hs.1 (by omega); exact wf_i64 (by omega) (by omega)
      obtain ⟨q, h5, h6⟩ := scalars_Select_is s _ hw hls
      rw [hset] at h6
      have hq : q = (x, true) := Sel.uniq hs.1 h6 (.inl ⟨x, memB_iff.1 d, rfl, rfl⟩)
      subst hq
      refine Ev.bind h5 ?_
      simp only [if_true]
      exact leadtraillaw04_ScalarsRanks_j1 s _ hs kk hk
    · have d' : memB (s.map L56) x = false := by simpa using d
      have e : rankL (s.map L56) x = (0, false) := by unfold rankL; rw [if_neg d]
      rw [e, d']
      simp only [bne_self_eq_false, Bool.false_eq_true, if_false]
      refine evSucc ?_
      simp only [leadtraillaw04_ScalarsRanks.j0, Bool.false_eq_true, if_false]
      exact leadtraillaw04_ScalarsRanks_j1 s _ hs kk hk
end Go.Proofs.Ytddffjhodiengaa.PC
namespace Go.Proofs.Ytddffjhodiengaa.Pure
open Go.Proofs.Ytddffjhodiengaa.C Go.Proofs.YtddffjhodiengaaW.PrintWords
theorem ScalarsRanks : ∀ (l0 : List S56) (a1 : Int) (a2 : Int), (l0.length * 16 ≤ 140737488351232 ∧ ∀ x ∈ l0, ((Lit.int .i64 x.f0).wf = true ∧ (Lit.int .i64 x.f1).wf = true)) → (Lit.int .i64 a1).wf = true → (Lit.int .i64 a2).wf = true → ∃ k, leadtraillaw04_ScalarsRanks.f k l0 a1 a2 = some true :=
  fun l0 a1 a2 h h1 h2 => Ev.rounds (PC.leadtraillaw04_ScalarsRanks_ev l0 a1 a2 h.1 h1 h2)
end Go.Proofs.Ytddffjhodiengaa.Pure
