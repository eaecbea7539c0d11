/- Words and walks of this claim, of the text PCNorm. -/
import Derived.Test.YtddffjhodiengaaKbCx0
import Derived.Test.YtddffjhodiengaaKbCx6
import Derived.Test.YtddffjhodiengaaKbCx7
import Derived.Test.YtddffjhodiengaaKbCx8
import Derived.Test.YtddffjhodiengaaKbPCValid
import Derived.Test.YtddffjhodiengaaKbPCRefNorm
import Derived.Test.YtddffjhodiengaaKbPCFixed
import Derived.Test.YtddffjhodiengaaKbPCSame
namespace Go.Proofs.Ytddffjhodiengaa.PC
open Go.RowKit Go.Proofs.YtddffjhodiengaaW.PrintWords Go.Proofs.YtddffjhodiengaaW.PrintLast Go.Proofs.YtddffjhodiengaaW.PrintMore Go.Proofs.Ytddffjhodiengaa.C Go.Proofs.LT
set_option linter.unusedVariables false
set_option linter.unusedSimpArgs false
theorem refNorm_loop (N : Nat) (hN : N ≤ 8796093022206) : ∀ (t pre : List S56) (lo hi : List Int), (pre ++ t).length ≤ N → lo.length = pre.length → hi.length = pre.length →
    (∀ i, t.findIdx? scalars_badP = some i → Ev (fun k => leadtrailref04_Norm.l0 k (pre ++ t) lo hi (pre.length : Int)) (([] : List S56), ((pre.length : Int) + i), 1)) ∧
    (t.findIdx? scalars_badP = none → ∀ r, Ev (fun k => (leadtrailref04_sorted.f k (lo ++ t.map fun z => z.f0)).bind fun t309 => ((leadtrailref04_sorted.f k (hi ++ t.map fun z => z.f1 + 1)).bind fun t312 => (leadtrailref04_Norm.l1 k t309 t312 ([] : List (S56)) 0 0 0))) r → Ev (fun k => leadtrailref04_Norm.l0 k (pre ++ t) lo hi (pre.length : Int)) r)
  | [], pre, lo, hi, _, _, _ => by
    refine ⟨fun i h => by simp at h, fun _ r hr => evSucc ?_⟩
    simp only [leadtrailref04_Norm.l0]
    rw [List.append_nil]
    simp only [if_neg (show ¬ ((pre.length : Nat) : Int) < ((pre.length : Nat) : Int) by omega)]
    simpa using hr
  | r :: t, pre, lo, hi, hl, h1, h2 => by
    have hlc := len_cons pre r t
    have c1 : (pre.length : Int) < ((pre ++ r :: t).length : Nat) := by rw [hlc]; omega
    have c2 : (0 : Int) ≤ pre.length := by omega
    have hll : pre.length ≤ N := by simp at hl; omega
    have e1 : lo.length < 17592186044416 := by omega
    have e2 : hi.length < 17592186044416 := by omega
    have ih := refNorm_loop N hN t (pre ++ [r]) (lo ++ [r.f0]) (hi ++ [r.f1 + 1]) (by rw [app_snoc]; exact hl) (by simp [h1]) (by simp [h2])
    rw [app_snoc, snoc_len] at ih
    have hw : Aside0 (wrap64 ((pre.length : Int) + 1) = (pre.length : Int) + 1) := Aside0.mk (w64 (by omega) (by omega))
    by_cases hb : scalars_badP r = true
    · refine ⟨fun i h => ?_, fun h => by simp [List.findIdx?_cons, hb] at h⟩
      obtain rfl : i = 0 := by simpa [List.findIdx?_cons, hb] using h.symm
      refine evSucc ?_
      simp only [scalars_badP, Bool.or_eq_true, decide_eq_true_eq] at hb
      simp only [leadtrailref04_Norm.l0, if_pos c1, if_pos c2, rd56, hw.out]
      by_cases d1 : r.f0 < 0
      · simp only [if_pos d1]; simpa using evNow (([] : List S56), (pre.length : Int), (1 : Int))
      by_cases d2 : r.f0 > r.f1
      · simp only [if_neg d1, if_pos d2]; simpa using evNow (([] : List S56), (pre.length : Int), (1 : Int))
      have d3 : r.f1 > 1073741823 := by omega
      simp only [if_neg d1, if_neg d2, if_pos d3]; simpa using evNow (([] : List S56), (pre.length : Int), (1 : Int))
    · have hb' : scalars_badP r = false := by simpa using hb
      simp only [scalars_badP, Bool.or_eq_true, decide_eq_true_eq, not_or] at hb
      have hw2 : Aside0 (wrap64 (r.f1 + 1) = r.f1 + 1) := Aside0.mk (w64 (by omega) (by omega))
      refine ⟨fun i h => ?_, fun h q hq => ?_⟩
      · simp only [List.findIdx?_cons, hb', Option.map_eq_some_iff] at h
        simp at h
        obtain ⟨j, hj, rfl⟩ := h
        have := ih.1 j hj
        refine evSucc ?_
        simp only [leadtrailref04_Norm.l0, if_pos c1, if_pos c2, rd56, hw.out, hw2.out, if_neg hb.1.1, if_neg hb.1.2, if_neg hb.2, if_pos e1, if_pos e2]
        rw [show ((pre.length : Int) + ((j + 1 : Nat) : Int)) = (pre.length : Int) + 1 + (j : Int) by omega]
        exact this
      · simp [List.findIdx?_cons, hb'] at h
        have := ih.2 (by simpa using h) q (by simpa using hq)
        refine evSucc ?_
        simp only [leadtrailref04_Norm.l0, if_pos c1, if_pos c2, rd56, hw.out, hw2.out, if_neg hb.1.1, if_neg hb.1.2, if_neg hb.2, if_pos e1, if_pos e2]
        exact this
theorem cnt_mem : ∀ (l : List S56), (∀ r ∈ l, r.f0 ≤ r.f1) → ∀ x, cnt (l.map fun z => z.f1 + 1) (x + 1) ≤ cnt (l.map fun z => z.f0) x ∧ (cnt (l.map fun z => z.f1 + 1) x < cnt (l.map fun z => z.f0) x ↔ Mem (l.map L56) x) ∧ cnt (l.map fun z => z.f1 + 1) x ≤ cnt (l.map fun z => z.f0) x
  | [], _, x => by simp [cnt_nil, Mem]
  | r :: t, h, x => by
    have ih := cnt_mem t (fun q hq => h q (List.mem_cons_of_mem _ hq)) x
    have hr := h r List.mem_cons_self
    simp only [List.map_cons, cnt_cons, mem_cons]
    have e : (L56 r).1 = r.f0 ∧ (L56 r).2 = r.f1 := ⟨rfl, rfl⟩
    rw [e.1, e.2, ← ih.2.1]
    refine ⟨?_, ?_, ?_⟩
    · split <;> split <;> omega
    · split <;> split <;> omega
    · split <;> split <;> omega
theorem refNorm_is (l : List S56) (hl : l.length * 16 ≤ 140737488351232) :
    (∀ i, l.findIdx? scalars_badP = some i → Ev (fun k => leadtrailref04_Norm.f k l) (([] : List S56), (i : Int), 1)) ∧
    (l.findIdx? scalars_badP = none → ∃ r, Ev (fun k => leadtrailref04_Norm.f k l) (r, 0, 0) ∧ scalars_IsSet r (fun x => Mem (l.map L56) x)) := by
  have h := refNorm_loop l.length (by omega) l [] [] [] (by simp) rfl rfl
  refine ⟨fun i hi => ?_, fun hn => ?_⟩
  · have := h.1 i hi
    simpa [leadtrailref04_Norm.f] using this
  · have hgood : ∀ r ∈ l, 0 ≤ r.f0 ∧ r.f0 ≤ r.f1 ∧ r.f1 ≤ 1073741823 := fun r hr => by
      have := List.findIdx?_eq_none_iff.1 hn r hr
      simp only [scalars_badP, Bool.or_eq_false_iff, decide_eq_false_iff_not] at this
      omega
    obtain ⟨lo, lo1, lo2, lo3⟩ := sorted_is _ (l.map fun z => z.f0) (Nat.le_refl _) (by rw [List.length_map]; omega)
    obtain ⟨hi, hi1, hi2, hi3⟩ := sorted_is _ (l.map fun z => z.f1 + 1) (Nat.le_refl _) (by rw [List.length_map]; omega)
    have ll := lo2.length_eq
    have lh := hi2.length_eq
    rw [List.length_map] at ll lh
    have hm := fun x => cnt_mem l (fun r hr => (hgood r hr).2.1) x
    have s1 := (sweep lo hi l.length (by omega) (by omega) (by omega) _ lo hi [] [] (-1) 0 rfl rfl rfl lo3 hi3
      (fun s hs => by
        obtain ⟨r, hr, rfl⟩ := List.mem_map.1 (lo2.mem_iff.1 hs)
        have := hgood r hr; omega)
      (fun e he => by
        obtain ⟨r, hr, rfl⟩ := List.mem_map.1 (hi2.mem_iff.1 he)
        have := hgood r hr; omega) (by omega)
      (fun x => by rw [cnt_perm hi2, cnt_perm lo2]; have := (hm x).1; omega)).1 [] (by simp; omega) rfl (fun s hs => by
        obtain ⟨r, hr, rfl⟩ := List.mem_map.1 (lo2.mem_iff.1 hs)
        have := hgood r hr; omega)
    obtain ⟨m, g1, g2, g3⟩ := s1
    have hv := g2 (-2) (by omega)
    have hn' := valid_len' hv (by omega) (by omega)
    refine ⟨m, ?_, hv, by simpa using hn', fun x => by rw [g3 x, cnt_perm hi2, cnt_perm lo2]; exact (hm x).2.1⟩
    have := h.2 hn (m, 0, 0) (Ev.bind (by simpa using lo1) (Ev.bind (by simpa using hi1) (by simpa using g1)))
    simpa [leadtrailref04_Norm.f] using this
theorem leadtraillaw04_ScalarsNorm_j0 {s : List S56} {p : Int → Prop} (hs : scalars_IsSet s p) : Ev (fun k => leadtraillaw04_ScalarsNorm.j0 k s false) true := by
  have ls : s.length * 16 ≤ 140737488351232 := by have := hs.2.1; omega
  have hb : s.findIdx? scalars_badP = none := List.findIdx?_eq_none_iff.2 fun r hr => by
    have := hs.1.each (L56 r) (List.mem_map.2 ⟨r, hr, rfl⟩)
    have e : (L56 r).1 = r.f0 ∧ (L56 r).2 = r.f1 := ⟨rfl, rfl⟩
    rw [e.1, e.2] at this
    simp only [scalars_badP, Bool.or_eq_false_iff, decide_eq_false_iff_not]
    omega
  obtain ⟨r, h1, h2⟩ := (scalars_Norm_is s ls).2 hb
  obtain rfl : r = s := scalars_IsSet.uniq h2 hs hs.2.2
  refine evSucc ?_
  simp only [leadtraillaw04_ScalarsNorm.j0, Bool.false_eq_true, if_false, copied04 r ls, Option.bind_some]
  refine Ev.bind h1 ?_
  simp only [if_true]
  exact Ev.bind (leadtrailref04_Same_self r ls) (evNow _)
theorem leadtraillaw04_ScalarsNorm_ev (l : List S56) (hl : l.length * 16 ≤ 140737488351232) : Ev (fun k => leadtraillaw04_ScalarsNorm.f k l) true := by
  simp only [leadtraillaw04_ScalarsNorm.f]
  refine Ev.bind fixed04 ?_
  simp only [if_true, copied04 l hl, Option.bind_some]
  have h1 := scalars_Norm_is l hl
  have h2 := refNorm_is l hl
  cases hb : l.findIdx? scalars_badP with
  | some i =>
    refine Ev.bind (h1.1 i hb) (Ev.bind (h2.1 i hb) (Ev.bind (leadtrailref04_Same_self [] (by simp)) ?_))
    simp only [if_true]
    have hv := scalars_Valid_is [] (by simp)
    rw [List.map_nil, validB_nil] at hv
    refine Ev.bind hv ?_
    simp only [Bool.not_true]
    exact leadtraillaw04_ScalarsNorm_j0 (p := fun _ => False) ⟨trivial, by simp, fun x => ⟨fun h => Mem.nil h, fun h => h.elim⟩⟩
  | none =>
    obtain ⟨s, g1, g2⟩ := h1.2 hb
    obtain ⟨t, k1, k2⟩ := h2.2 hb
    obtain rfl : t = s := scalars_IsSet.uniq k2 g2 fun _ => Iff.rfl
    have ls : t.length * 16 ≤ 140737488351232 := by have := g2.2.1; omega
    refine Ev.bind g1 (Ev.bind k1 (Ev.bind (leadtrailref04_Same_self t ls) ?_))
    simp only [if_true]
    have hv := scalars_Valid_is t ls
    rw [(validB_iff _ _ _).2 g2.1] at hv
    refine Ev.bind hv ?_
    simp only [Bool.not_true]
    exact leadtraillaw04_ScalarsNorm_j0 g2
end Go.Proofs.Ytddffjhodiengaa.PC
namespace Go.Proofs.Ytddffjhodiengaa.Pure
open Go.Proofs.Ytddffjhodiengaa.C Go.Proofs.YtddffjhodiengaaW.PrintWords
theorem ScalarsNorm : ∀ (l0 : List S56), (l0.length * 16 ≤ 140737488351232 ∧ ∀ x ∈ l0, ((Lit.int .i64 x.f0).wf = true ∧ (Lit.int .i64 x.f1).wf = true)) → ∃ k, leadtraillaw04_ScalarsNorm.f k l0 = some true :=
  fun l0 h => Ev.rounds (PC.leadtraillaw04_ScalarsNorm_ev l0 h.1)
end Go.Proofs.Ytddffjhodiengaa.Pure
