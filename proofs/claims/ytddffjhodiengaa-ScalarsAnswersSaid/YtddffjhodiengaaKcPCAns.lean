/- Words and walks of this claim, of the text PCAns. -/
import Derived.Test.YtddffjhodiengaaKcCx0
import Derived.Test.YtddffjhodiengaaKcCx9
import Derived.Test.YtddffjhodiengaaKcCx11
import Derived.Test.YtddffjhodiengaaKcCx3
import Derived.Test.YtddffjhodiengaaKcCx4
import Derived.Test.YtddffjhodiengaaKcCx8
import Derived.Test.YtddffjhodiengaaKcCx10
import Derived.Test.YtddffjhodiengaaKcCx12
import Derived.Test.YtddffjhodiengaaKcPCValid
import Derived.Test.YtddffjhodiengaaKcPCSets
import Derived.Test.YtddffjhodiengaaKcPCRefComb
import Derived.Test.YtddffjhodiengaaKcPCFixed
import Derived.Test.YtddffjhodiengaaKcCx5
namespace Go.Proofs.Ytddffjhodiengaa.PC
open Go.RowKit Go.Proofs.YtddffjhodiengaaW.PrintWords Go.Proofs.YtddffjhodiengaaW.PrintLast Go.Proofs.YtddffjhodiengaaW.PrintMore Go.Proofs.Ytddffjhodiengaa.C Go.Proofs.LT
set_option linter.unusedVariables false
set_option linter.unusedSimpArgs false
theorem refHas_loop (N : Nat) (hN : N ≤ 1073741824) (x : Int) : ∀ (t pre : List S56), (pre ++ t).length ≤ N → Ev (fun k => leadtrailref04_Has.l0 k x (pre.length : Int) (pre ++ t)) (memB (t.map L56) x)
  | [], pre, _ => by
    refine evSucc ?_
    simp only [leadtrailref04_Has.l0]
    rw [List.append_nil]
    simp only [if_neg (show ¬ ((pre.length : Nat) : Int) < ((pre.length : Nat) : Int) by omega)]
    simpa [memB] using evNow false
  | r :: t, pre, hl => by
    have hlc := len_cons pre r t
    have hpl : pre.length ≤ N := by simp at hl; omega
    have hw : Aside0 (wrap64 ((pre.length : Int) + 1) = (pre.length : Int) + 1) := Aside0.mk (w64 (by omega) (by omega))
    have c1 : (pre.length : Int) < ((pre ++ r :: t).length : Nat) := by rw [hlc]; omega
    have c2 : (0 : Int) ≤ pre.length := by omega
    have ih := refHas_loop N hN x t (pre ++ [r]) (by rw [app_snoc]; exact hl)
    rw [app_snoc, snoc_len] at ih
    have e : memB ((r :: t).map L56) x = ((decide (r.f0 ≤ x) && decide (x ≤ r.f1)) || memB (t.map L56) x) := by
      rw [Bool.eq_iff_iff]; simp only [List.map_cons, memB_iff, mem_cons, Bool.or_eq_true, Bool.and_eq_true, decide_eq_true_iff]; rfl
    rw [e]
    refine evSucc ?_
    simp only [leadtrailref04_Has.l0, if_pos c1, if_pos c2, rd56, hw.out]
    by_cases d1 : x ≥ r.f0
    · simp only [if_pos d1]
      by_cases d2 : x ≤ r.f1
      · simp only [if_pos d2]
        rw [decide_eq_true (show r.f0 ≤ x from d1), decide_eq_true d2]; exact evNow _
      · simp only [if_neg d2]
        rw [decide_eq_false d2, Bool.and_false, Bool.false_or]; exact ih
    · simp only [if_neg d1]
      rw [decide_eq_false (show ¬ r.f0 ≤ x from d1), Bool.false_and, Bool.false_or]; exact ih
theorem refHas_is (l : List S56) (x : Int) (hl : l.length * 16 ≤ 140737488351232) : Ev (fun k => leadtrailref04_Has.f k l x) (memB (setL 1073741823 (l.map L56)) x) := by
  obtain ⟨s, h1, h2⟩ := refSet_is l hl
  obtain ⟨hv, hn⟩ := refSet_facts h2
  rw [← h2]
  refine Ev.bind h1 ?_
  exact refHas_loop s.length hn x s [] (by simp)
theorem refSize_loop (N : Nat) (hN : N ≤ 1073741824) : ∀ (t pre : List S56) (last acc : Int), (pre ++ t).length ≤ N → ValidFrom 1073741823 last (t.map L56) → 0 ≤ acc → acc + size (t.map L56) ≤ 4294967296 →
    Ev (fun k => leadtrailref04_Size.l0 k acc (pre.length : Int) (pre ++ t)) (acc + size (t.map L56))
  | [], pre, last, acc, _, _, _, _ => by
    refine evSucc ?_
    simp only [leadtrailref04_Size.l0]
    rw [List.append_nil]
    simp only [if_neg (show ¬ ((pre.length : Nat) : Int) < ((pre.length : Nat) : Int) by omega)]
    simpa [size_nil] using evNow acc
  | r :: t, pre, last, acc, hl, hv, h0, h1 => by
    have hlc := len_cons pre r t
    have hs := size_nonneg hv.2.2.2.2
    have e1 : size ((r :: t).map L56) = (r.f1 - r.f0 + 1) + size (t.map L56) := size_cons _ _
    have v0 : 0 ≤ r.f0 := hv.1
    have v1 : r.f0 ≤ r.f1 := hv.2.1
    have v2 : r.f1 ≤ 1073741823 := hv.2.2.1
    have ih := refSize_loop N hN t (pre ++ [r]) r.f1 (acc + (r.f1 - r.f0 + 1)) (by rw [app_snoc]; exact hl) hv.2.2.2.2 (by omega) (by omega)
    rw [app_snoc, snoc_len] at ih
    refine evSucc ?_
    have hw : Aside0 (wrap64 ((pre.length : Int) + 1) = (pre.length : Int) + 1) := Aside0.mk (w64 (by omega) (by simp at hl; omega))
    have c1 : (pre.length : Int) < ((pre ++ r :: t).length : Nat) := by rw [hlc]; omega
    have c2 : (0 : Int) ≤ pre.length := by omega
    have w1 : Aside0 (wrap64 (r.f1 - r.f0) = r.f1 - r.f0) := Aside0.mk (w64 (by omega) (by omega))
    have w2 : Aside0 (wrap64 (r.f1 - r.f0 + 1) = r.f1 - r.f0 + 1) := Aside0.mk (w64 (by omega) (by omega))
    have w3 : Aside0 (wrap64 (acc + (r.f1 - r.f0 + 1)) = acc + (r.f1 - r.f0 + 1)) := Aside0.mk (w64 (by omega) (by omega))
    simp only [leadtrailref04_Size.l0, if_pos c1, if_pos c2, rd56, hw.out, w1.out, w2.out, w3.out]
    have e2 : acc + size ((r :: t).map L56) = acc + (r.f1 - r.f0 + 1) + size (t.map L56) := by omega
    rw [e2]
    exact ih
theorem refSize_is (l : List S56) (hl : l.length * 16 ≤ 140737488351232) : Ev (fun k => leadtrailref04_Size.f k l) (size (setL 1073741823 (l.map L56))) := by
  obtain ⟨s, h1, h2⟩ := refSet_is l hl
  obtain ⟨hv, hn⟩ := refSet_facts h2
  rw [← h2]
  refine Ev.bind h1 ?_
  have h := refSize_loop s.length hn s [] (-2) 0 (by simp) hv (by omega) (by have := valid_top hv (by omega); omega)
  simpa using h
theorem refSelect_loop (N : Nat) (hN : N ≤ 1073741824) (x : Int) (hx : x ≤ 9223372036854775807) (hx0 : -9223372036854775808 ≤ x) : ∀ (t pre : List S56) (last acc : Int), (pre ++ t).length ≤ N → ValidFrom 1073741823 last (t.map L56) → 0 ≤ acc → acc + size (t.map L56) ≤ 4294967296 → (0 ≤ x → acc ≤ x) →
    ∃ r, Ev (fun k => leadtrailref04_Select.l0 k x acc (pre.length : Int) (pre ++ t)) r ∧ Sel (t.map L56) (x - acc) r
  | [], pre, last, acc, _, _, h0, _, hk => by
    refine ⟨(0, false), evSucc ?_, .inr ⟨?_, rfl⟩⟩
    · simp only [leadtrailref04_Select.l0]
      rw [List.append_nil]
      simp only [if_neg (show ¬ ((pre.length : Nat) : Int) < ((pre.length : Nat) : Int) by omega)]
      exact evNow _
    · rw [List.map_nil, size_nil]; omega
  | r :: t, pre, last, acc, hl, hv, h0, h1, hk => by
    have hlc := len_cons pre r t
    have hs := size_nonneg hv.2.2.2.2
    have e1 : size ((r :: t).map L56) = (r.f1 - r.f0 + 1) + size (t.map L56) := size_cons _ _
    have v0 : 0 ≤ r.f0 := hv.1
    have v1 : r.f0 ≤ r.f1 := hv.2.1
    have v2 : r.f1 ≤ 1073741823 := hv.2.2.1
    have hm : (L56 r).1 = r.f0 ∧ (L56 r).2 = r.f1 := ⟨rfl, rfl⟩
    have hw : Aside0 (wrap64 ((pre.length : Int) + 1) = (pre.length : Int) + 1) := Aside0.mk (w64 (by omega) (by simp at hl; omega))
    have c1 : (pre.length : Int) < ((pre ++ r :: t).length : Nat) := by rw [hlc]; omega
    have c2 : (0 : Int) ≤ pre.length := by omega
    have w1 : Aside0 (wrap64 (r.f1 - r.f0) = r.f1 - r.f0) := Aside0.mk (w64 (by omega) (by omega))
    have w2 : Aside0 (wrap64 (r.f1 - r.f0 + 1) = r.f1 - r.f0 + 1) := Aside0.mk (w64 (by omega) (by omega))
    have w3 : Aside0 (wrap64 (acc + (r.f1 - r.f0 + 1)) = acc + (r.f1 - r.f0 + 1)) := Aside0.mk (w64 (by omega) (by omega))
    by_cases d1 : x ≥ acc
    · have w4 : Aside0 (wrap64 (x - acc) = x - acc) := Aside0.mk (w64 (by omega) (by omega))
      by_cases d2 : x - acc < r.f1 - r.f0 + 1
      · have w5 : Aside0 (wrap64 (r.f0 + x) = r.f0 + x) := Aside0.mk (w64 (by omega) (by omega))
        have w6 : Aside0 (wrap64 (r.f0 + x - acc) = r.f0 + x - acc) := Aside0.mk (w64 (by omega) (by omega))
        refine ⟨(r.f0 + x - acc, true), evSucc ?_, .inl ⟨r.f0 + x - acc, mem_cons.2 (.inl ⟨by simp only [hm.1]; omega, by simp only [hm.2]; omega⟩), ?_, rfl⟩⟩
        · simp only [leadtrailref04_Select.l0, if_pos c1, if_pos c2, rd56, hw.out, w1.out, w2.out, w3.out, w4.out, w5.out, w6.out, if_pos d1, if_pos d2]; exact evNow _
        · have hc := cd_in_first (x := r.f0 + x - acc) (show ValidFrom 1073741823 last (L56 r :: t.map L56) from hv) (by simp only [hm.1]; omega) (by simp only [hm.2]; omega)
          rw [List.map_cons, hc, hm.1]; omega
      · obtain ⟨q, hq, hs2⟩ := refSelect_loop N hN x hx hx0 t (pre ++ [r]) r.f1 (acc + (r.f1 - r.f0 + 1)) (by rw [app_snoc]; exact hl) hv.2.2.2.2 (by omega) (by omega) (by omega)
        rw [app_snoc, snoc_len] at hq
        refine ⟨q, evSucc ?_, ?_⟩
        · simp only [leadtrailref04_Select.l0, if_pos c1, if_pos c2, rd56, hw.out, w1.out, w2.out, w3.out, w4.out, if_pos d1, if_neg d2]; exact hq
        · rcases hs2 with ⟨y, hy, hk2, rfl⟩ | ⟨hk2, rfl⟩
          · have hg := ValidFrom.gt hv.2.2.2.2 hy
            refine .inl ⟨y, mem_cons.2 (.inr hy), ?_, rfl⟩
            have hc := cd_past_first (x := y) (show ValidFrom 1073741823 last (L56 r :: t.map L56) from hv) (by simp only [hm.2]; omega)
            rw [List.map_cons, hc, hm.1, hm.2]; omega
          · refine .inr ⟨?_, rfl⟩
            rw [e1]; omega
    · have hxn : x < 0 := by omega
      obtain ⟨q, hq, hs2⟩ := refSelect_loop N hN x hx hx0 t (pre ++ [r]) r.f1 (acc + (r.f1 - r.f0 + 1)) (by rw [app_snoc]; exact hl) hv.2.2.2.2 (by omega) (by omega) (by omega)
      rw [app_snoc, snoc_len] at hq
      have hq0 : q = (0, false) := by
        rcases hs2 with ⟨y, hy, hk2, rfl⟩ | ⟨hk2, rfl⟩
        · omega
        · rfl
      refine ⟨q, evSucc ?_, .inr ⟨.inl (by omega), hq0⟩⟩
      simp only [leadtrailref04_Select.l0, if_pos c1, if_pos c2, rd56, hw.out, w1.out, w2.out, w3.out, if_neg d1]; exact hq
theorem refSelect_is (l : List S56) (x : Int) (hx : (Lit.int .i64 x).wf = true) (hl : l.length * 16 ≤ 140737488351232) : ∃ r, Ev (fun k => leadtrailref04_Select.f k l x) r ∧ Sel (setL 1073741823 (l.map L56)) x r := by
  obtain ⟨s, h1, h2⟩ := refSet_is l hl
  obtain ⟨hv, hn⟩ := refSet_facts h2
  rw [← h2]
  have hb := bounds_i64 hx
  obtain ⟨r, g1, g2⟩ := refSelect_loop s.length hn x hb.2 hb.1 s [] (-2) 0 (by simp) hv (by omega) (by have := valid_top hv (by omega); omega) (by omega)
  exact ⟨r, Ev.bind h1 (by simpa using g1), by simpa using g2⟩
theorem cd_above (p : Int → Bool) (m : Nat) : ∀ n : Nat, m ≤ n → (∀ i : Int, (m : Int) ≤ i → p i = false) → cd p n = cd p m
  | 0, h, _ => by rw [show m = 0 by omega]
  | n + 1, h, hp => by
    by_cases e : m = n + 1
    · rw [e]
    · rw [cd_succ, hp (n : Int) (by omega), cd_above p m n (by omega) hp]; simp
theorem refRank_is (l : List S56) (x : Int) (hl : l.length * 16 ≤ 140737488351232) : Ev (fun k => leadtrailref04_Rank.f k l x) (rankL (setL 1073741823 (l.map L56)) x) := by
  have hh := refHas_is l x hl
  have hv := setL_valid 1073741823 (l.map L56)
  refine Ev.bind hh ?_
  unfold rankL
  by_cases d : memB (setL 1073741823 (l.map L56)) x = true
  · rw [d]
    simp only [if_true]
    have hr := hv.range (memB_iff.1 d)
    obtain ⟨r, g1, g2⟩ := comb_is l [⟨0, x⟩] hl (by simp) true false false
    have lr : r.length * 16 ≤ 140737488351232 := by have := g2.2.1; omega
    have hz := refSize_is r lr
    rw [setL_of g2.1] at hz
    have e1 : setL 1073741823 (([⟨0, x⟩] : List S56).map L56) = [(0, x)] := setL_of (show ValidFrom 1073741823 (-2) [(0, x)] from ⟨by omega, hr.1, hr.2, by omega, trivial⟩)
    have e2 : ∀ i : Int, 0 ≤ i → memB (r.map L56) i = (memB (setL 1073741823 (l.map L56)) i && decide (i ≤ x)) := fun i hi => by
      rw [Bool.eq_iff_iff, memB_iff, g2.2.2 i, e1]
      have e3 : memB [(0, x)] i = decide (i ≤ x) := by
        rw [Bool.eq_iff_iff, memB_iff, mem_cons, decide_eq_true_iff]
        exact ⟨fun h => by rcases h with h | h; exact h.2; exact (Mem.nil h).elim, fun h => .inl ⟨hi, h⟩⟩
      show want true false false (memB (setL 1073741823 (l.map L56)) i) (memB [(0, x)] i) = true ↔ _
      rw [e3]
      cases memB (setL 1073741823 (l.map L56)) i <;> cases decide (i ≤ x) <;> simp [want]
    have ex : ((x.toNat : Nat) : Int) = x := Int.toNat_of_nonneg hr.1
    have hc : size (r.map L56) = (cd (memB (setL 1073741823 (l.map L56))) x.toNat : Int) + 1 := by
      rw [← cd_size (n := 1073741824) g2.1 (by omega)]
      rw [cd_above (memB (r.map L56)) (x.toNat + 1) 1073741824 (by omega) (fun i hi => by
        rw [e2 i (by omega), decide_eq_false (by omega), Bool.and_false])]
      rw [cd_succ]
      rw [cd_congr (p := memB (r.map L56)) (q := memB (setL 1073741823 (l.map L56))) (n := x.toNat) (fun i h0 h1 => by
        rw [e2 i h0, decide_eq_true (by omega), Bool.and_true])]
      rw [ex, e2 x hr.1, d]
      simp
    refine Ev.bind (Ev.bind g1 (evNow _)) (Ev.bind hz ?_)
    have hw : wrap64 (size (r.map L56) - 1) = (cd (memB (setL 1073741823 (l.map L56))) x.toNat : Int) := by
      have := valid_top g2.1 (by omega)
      have := size_nonneg g2.1
      rw [w64 (by omega) (by omega)]; omega
    rw [hw]
    exact evNow _
  · have d' : memB (setL 1073741823 (l.map L56)) x = false := by simpa using d
    rw [d']
    simp only [Bool.false_eq_true, if_false]
    exact evNow _
theorem leadtraillaw04_ScalarsAnswers_ev (l : List S56) (x kk : Int) (hl : l.length * 16 ≤ 140737488351232) (hx : (Lit.int .i64 x).wf = true) (hk : (Lit.int .i64 kk).wf = true) : Ev (fun k => leadtraillaw04_ScalarsAnswers.f k l x kk) true := by
  simp only [leadtraillaw04_ScalarsAnswers.f]
  refine Ev.bind fixed04 ?_
  simp only [if_true, copied04 l hl, Option.bind_some]
  obtain ⟨q, s1, s2⟩ := scalars_Select_is l kk hk hl
  obtain ⟨q', s3, s4⟩ := refSelect_is l kk hk hl
  obtain rfl : q = q' := Sel.uniq (setL_valid _ _) s2 s4
  refine Ev.bind (scalars_Rank_is l x hx hl) (Ev.bind (refRank_is l x hl) (Ev.bind s1 (Ev.bind s3 (Ev.bind (scalars_Valid_is l hl) (Ev.bind (refValid_is l hl) ?_)))))
  simp only [beq_self_eq_true, if_true]
  refine Ev.bind (scalars_Size_is l hl) (Ev.bind (refSize_is l hl) ?_)
  simp only [if_true]
  refine Ev.bind (scalars_Has_is l x hx hl) (Ev.bind (refHas_is l x hl) ?_)
  simp only [beq_self_eq_true, if_true]
  exact evNow _
end Go.Proofs.Ytddffjhodiengaa.PC
namespace Go.Proofs.Ytddffjhodiengaa.Pure
open Go.Proofs.Ytddffjhodiengaa.C Go.Proofs.YtddffjhodiengaaW.PrintWords
theorem ScalarsAnswers : ∀ (l0 : List S56) (a1 : Int) (a2 : Int), (l0.length * 16 ≤ 140737488351232 ∧ ∀ x ∈ l0, ((Lit.int .i64 x.f0).wf = true ∧ (Lit.int .i64 x.f1).wf = true)) → (Lit.int .i64 a1).wf = true → (Lit.int .i64 a2).wf = true → ∃ k, leadtraillaw04_ScalarsAnswers.f k l0 a1 a2 = some true :=
  fun l0 a1 a2 h h1 h2 => Ev.rounds (PC.leadtraillaw04_ScalarsAnswers_ev l0 a1 a2 h.1 h1 h2)
end Go.Proofs.Ytddffjhodiengaa.Pure
