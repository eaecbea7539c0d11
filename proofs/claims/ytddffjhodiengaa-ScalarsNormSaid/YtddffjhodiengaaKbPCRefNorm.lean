/- Words and walks of this claim, of the text PCRefNorm. -/
import Derived.Test.YtddffjhodiengaaKbCx0
import Derived.Test.YtddffjhodiengaaKbCx5
import Derived.Test.YtddffjhodiengaaKbCx6
import Derived.Test.YtddffjhodiengaaKbCx7
import Derived.Test.YtddffjhodiengaaKbPCSets
namespace Go.Proofs.Ytddffjhodiengaa.PC
open Go.RowKit Go.Proofs.YtddffjhodiengaaW.PrintWords Go.Proofs.YtddffjhodiengaaW.PrintLast Go.Proofs.YtddffjhodiengaaW.PrintMore Go.Proofs.Ytddffjhodiengaa.C Go.Proofs.LT
set_option linter.unusedVariables false
set_option linter.unusedSimpArgs false
theorem rdI (pre : List Int) (r : Int) (t : List Int) : rd (pre ++ r :: t) (pre.length : Int) = r := by simp [rd]
def mergeL : List Int → List Int → List Int
  | [], b => b
  | x :: a, [] => x :: a
  | x :: a, y :: b => if x ≤ y then x :: mergeL a (y :: b) else y :: mergeL (x :: a) b
termination_by a b => a.length + b.length
theorem mergeL_perm : ∀ (n : Nat) (a b : List Int), a.length + b.length = n → (mergeL a b).Perm (a ++ b)
  | _, [], b, _ => by unfold mergeL; exact List.Perm.refl _
  | _, x :: a, [], _ => by unfold mergeL; simp
  | 0, x :: a, y :: b, h => by simp at h
  | n + 1, x :: a, y :: b, h => by
    unfold mergeL
    split
    · exact (mergeL_perm n a (y :: b) (by simp at h ⊢; omega)).cons x
    · refine ((mergeL_perm n (x :: a) b (by simp at h ⊢; omega)).cons y).trans ?_
      exact (List.perm_middle (l₁ := x :: a) (l₂ := b) (a := y)).symm
theorem mergeL_sorted : ∀ (n : Nat) (a b : List Int), a.length + b.length = n → a.Pairwise (· ≤ ·) → b.Pairwise (· ≤ ·) → (mergeL a b).Pairwise (· ≤ ·)
  | _, [], b, _, _, hb => by unfold mergeL; exact hb
  | _, x :: a, [], _, ha, _ => by unfold mergeL; exact ha
  | 0, x :: a, y :: b, h, _, _ => by simp at h
  | n + 1, x :: a, y :: b, h, ha, hb => by
    have ha' := List.pairwise_cons.1 ha
    have hb' := List.pairwise_cons.1 hb
    unfold mergeL
    split
    · rename_i d
      refine List.pairwise_cons.2 ⟨fun z hz => ?_, mergeL_sorted n a (y :: b) (by simp at h ⊢; omega) ha'.2 hb⟩
      have := (mergeL_perm n a (y :: b) (by simp at h ⊢; omega)).mem_iff.1 hz
      rcases List.mem_append.1 this with hz | hz
      · exact ha'.1 z hz
      · rcases List.mem_cons.1 hz with rfl | hz
        · exact d
        · exact Int.le_trans d (hb'.1 z hz)
    · rename_i d
      refine List.pairwise_cons.2 ⟨fun z hz => ?_, mergeL_sorted n (x :: a) b (by simp at h ⊢; omega) ha hb'.2⟩
      have := (mergeL_perm n (x :: a) b (by simp at h ⊢; omega)).mem_iff.1 hz
      rcases List.mem_append.1 this with hz | hz
      · rcases List.mem_cons.1 hz with rfl | hz
        · omega
        · exact Int.le_trans (by omega) (ha'.1 z hz)
      · exact hb'.1 z hz
theorem merged_loop (N : Nat) (hN : N ≤ 8796093022206) : ∀ (n : Nat) (ta tb pa pb out : List Int), ta.length + tb.length = n → (pa ++ ta).length ≤ N → (pb ++ tb).length ≤ N → out.length + ta.length + tb.length ≤ N + N →
    Ev (fun k => leadtrailref04_merged.l0 k (pa ++ ta) (pb ++ tb) out (pa.length : Int) (pb.length : Int)) (out ++ mergeL ta tb)
  | _, [], [], pa, pb, out, _, _, _, _ => by
    refine evSucc (evSucc ?_)
    simp only [leadtrailref04_merged.l0, List.append_nil]
    simp only [if_neg (show ¬ ((pa.length : Nat) : Int) < ((pa.length : Nat) : Int) by omega), leadtrailref04_merged.j1, decide_eq_false (show ¬ ((pb.length : Nat) : Int) < ((pb.length : Nat) : Int) by omega), Bool.false_eq_true, if_false]
    unfold mergeL
    simpa using evNow out
  | 0, x :: ta, _, _, _, _, h, _, _, _ => by simp at h
  | 0, [], y :: tb, _, _, _, h, _, _, _ => by simp at h
  | n + 1, [], y :: tb, pa, pb, out, h, ha, hb, ho => by
    have hlb := len_cons pb y tb
    have ih := merged_loop N hN n [] tb pa (pb ++ [y]) (out ++ [y]) (by simp at h ⊢; omega) ha (by rw [app_snoc]; exact hb) (by simp at ho ⊢; omega)
    rw [app_snoc, snoc_len] at ih
    have c1 : (pb.length : Int) < ((pb ++ y :: tb).length : Nat) := by rw [hlb]; omega
    have c2 : (0 : Int) ≤ pb.length := by omega
    have c3 : ¬ (pb.length : Int) = ((pb ++ y :: tb).length : Nat) := by omega
    have hlt : out.length < 17592186044416 := by simp at ho; omega
    have hw : Aside0 (wrap64 ((pb.length : Int) + 1) = (pb.length : Int) + 1) := Aside0.mk (w64 (by omega) (by simp at hb; omega))
    refine evSucc (evSucc ?_)
    simp only [leadtrailref04_merged.l0, List.append_nil] at ih ⊢
    simp only [if_neg (show ¬ ((pa.length : Nat) : Int) < ((pa.length : Nat) : Int) by omega), leadtrailref04_merged.j1, decide_eq_true c1, if_true, if_neg c3, if_pos c1, if_pos c2, if_pos hlt, rdI, hw.out]
    unfold mergeL
    unfold mergeL at ih
    simpa using ih
  | n + 1, x :: ta, [], pa, pb, out, h, ha, hb, ho => by
    have hla := len_cons pa x ta
    have ih := merged_loop N hN n ta [] (pa ++ [x]) pb (out ++ [x]) (by simp at h ⊢; omega) (by rw [app_snoc]; exact ha) hb (by simp at ho ⊢; omega)
    rw [app_snoc, snoc_len] at ih
    have c1 : (pa.length : Int) < ((pa ++ x :: ta).length : Nat) := by rw [hla]; omega
    have c2 : (0 : Int) ≤ pa.length := by omega
    have hlt : out.length < 17592186044416 := by simp at ho; omega
    have hw : Aside0 (wrap64 ((pa.length : Int) + 1) = (pa.length : Int) + 1) := Aside0.mk (w64 (by omega) (by simp at ha; omega))
    refine evSucc (evSucc ?_)
    simp only [leadtrailref04_merged.l0, List.append_nil] at ih ⊢
    simp only [if_pos c1, leadtrailref04_merged.j1, if_true, if_pos c2, if_pos hlt, rdI, hw.out]
    have e : out ++ mergeL (x :: ta) [] = (out ++ [x]) ++ mergeL ta [] := by
      unfold mergeL
      cases ta with
      | nil => unfold mergeL; simp
      | cons z ta => unfold mergeL; simp
    rw [e]
    exact ih
  | n + 1, x :: ta, y :: tb, pa, pb, out, h, ha, hb, ho => by
    have hla := len_cons pa x ta
    have hlb := len_cons pb y tb
    have c1 : (pa.length : Int) < ((pa ++ x :: ta).length : Nat) := by rw [hla]; omega
    have c2 : (0 : Int) ≤ pa.length := by omega
    have d1 : (pb.length : Int) < ((pb ++ y :: tb).length : Nat) := by rw [hlb]; omega
    have d2 : (0 : Int) ≤ pb.length := by omega
    have d3 : ¬ (pb.length : Int) = ((pb ++ y :: tb).length : Nat) := by omega
    have hlt : out.length < 17592186044416 := by simp at ho; omega
    have hwa : Aside0 (wrap64 ((pa.length : Int) + 1) = (pa.length : Int) + 1) := Aside0.mk (w64 (by omega) (by simp at ha; omega))
    have hwb : Aside0 (wrap64 ((pb.length : Int) + 1) = (pb.length : Int) + 1) := Aside0.mk (w64 (by omega) (by simp at hb; omega))
    refine evSucc (evSucc ?_)
    simp only [leadtrailref04_merged.l0]
    simp only [if_pos c1, leadtrailref04_merged.j1, if_true, if_pos c2, if_neg d3, if_pos d1, if_pos d2, rdI]
    by_cases d : x ≤ y
    · have ih := merged_loop N hN n ta (y :: tb) (pa ++ [x]) pb (out ++ [x]) (by simp at h ⊢; omega) (by rw [app_snoc]; exact ha) hb (by simp at ho ⊢; omega)
      rw [app_snoc, snoc_len] at ih
      simp only [if_pos d, if_pos hlt, hwa.out]
      have e : out ++ mergeL (x :: ta) (y :: tb) = (out ++ [x]) ++ mergeL ta (y :: tb) := by
        rw [mergeL]; rw [if_pos d]; simp
      rw [e]
      exact ih
    · have ih := merged_loop N hN n (x :: ta) tb pa (pb ++ [y]) (out ++ [y]) (by simp at h ⊢; omega) ha (by rw [app_snoc]; exact hb) (by simp at ho ⊢; omega)
      rw [app_snoc, snoc_len] at ih
      simp only [if_neg d, if_pos hlt, hwb.out]
      have e : out ++ mergeL (x :: ta) (y :: tb) = (out ++ [y]) ++ mergeL (x :: ta) tb := by
        rw [mergeL]; rw [if_neg d]; simp
      rw [e]
      exact ih
theorem merged_is (a b : List Int) (ha : a.length ≤ 8796093022206) (hb : b.length ≤ 8796093022206) : Ev (fun k => leadtrailref04_merged.f k a b) (mergeL a b) := by
  have h := merged_loop 8796093022206 (Nat.le_refl _) _ a b [] [] [] rfl (by simpa using ha) (by simpa using hb) (by simp; omega)
  simpa [leadtrailref04_merged.f] using h
theorem sorted_is : ∀ (n : Nat) (l : List Int), l.length ≤ n → l.length ≤ 8796093022206 → ∃ r, Ev (fun k => leadtrailref04_sorted.f k l) r ∧ r.Perm l ∧ r.Pairwise (· ≤ ·)
  | n, l, hn, hl => by
    by_cases d : (l.length : Int) < 2
    · refine ⟨l, evSucc ?_, List.Perm.refl _, ?_⟩
      · simp only [leadtrailref04_sorted.f, if_pos d, Option.bind_some, List.length_nil, Nat.zero_add, List.nil_append, if_pos (show l.length < 17592186044416 by omega)]
        exact evNow _
      · match l, d with
        | [], _ => exact List.Pairwise.nil
        | [x], _ => exact List.pairwise_singleton _ _
        | x :: y :: t, d => simp at d; omega
    · match n, hn with
      | 0, hn => omega
      | n + 1, hn =>
        have hw : Aside0 (wrap64 ((l.length : Int) / 2) = (l.length : Int) / 2) := Aside0.mk (w64 (by omega) (by omega))
        have c1 : (0 : Int) ≤ (l.length : Int) / 2 := by omega
        have c2 : (l.length : Int) / 2 ≤ (l.length : Int) := by omega
        have e : ((l.length : Int) / 2).toNat = l.length / 2 := by omega
        obtain ⟨a, a1, a2, a3⟩ := sorted_is n (l.take (l.length / 2)) (by rw [List.length_take]; omega) (by rw [List.length_take]; omega)
        obtain ⟨b, b1, b2, b3⟩ := sorted_is n (l.drop (l.length / 2)) (by rw [List.length_drop]; omega) (by rw [List.length_drop]; omega)
        have la := a2.length_eq
        have lb := b2.length_eq
        rw [List.length_take] at la
        rw [List.length_drop] at lb
        have hm := merged_is a b (by omega) (by omega)
        refine ⟨mergeL a b, evSucc ?_, ?_, mergeL_sorted _ a b rfl a3 b3⟩
        · simp only [leadtrailref04_sorted.f, if_neg d, hw.out, if_pos c1, if_pos c2, e]
          exact Ev.bind a1 (Ev.bind b1 (Ev.bind hm (evNow _)))
        · have h1 := (mergeL_perm _ a b rfl).trans (a2.append b2)
          rwa [List.take_append_drop] at h1
def cnt (l : List Int) (x : Int) : Nat := l.countP fun y => decide (y ≤ x)
theorem cnt_nil (x : Int) : cnt [] x = 0 := rfl
theorem cnt_cons (y : Int) (l : List Int) (x : Int) : cnt (y :: l) x = cnt l x + if y ≤ x then 1 else 0 := by
  unfold cnt; rw [List.countP_cons]; simp
theorem cnt_zero {l : List Int} {x : Int} (h : ∀ y ∈ l, x < y) : cnt l x = 0 := by
  unfold cnt; rw [List.countP_eq_zero]; intro y hy; have := h y hy; simp; omega
theorem cnt_perm {a b : List Int} (h : a.Perm b) (x : Int) : cnt a x = cnt b x := h.countP_eq _
theorem cnt_pos {l : List Int} {x : Int} (h : 0 < cnt l x) : ∃ y ∈ l, y ≤ x := by
  unfold cnt at h
  obtain ⟨y, hy, h⟩ := List.countP_pos_iff.1 h
  exact ⟨y, hy, by simpa using h⟩
attribute [irreducible] cnt
theorem sweep (lo hi : List Int) (N : Nat) (hN : N ≤ 8796093022206) (hlo : lo.length ≤ N) (hhi : hi.length ≤ N) : ∀ (n : Nat) (S E pS pE : List Int) (p : Int) (op : Nat), S.length + E.length = n → lo = pS ++ S → hi = pE ++ E → S.Pairwise (· ≤ ·) → E.Pairwise (· ≤ ·) →
    (∀ s ∈ S, 0 ≤ s ∧ p ≤ s) → (∀ e ∈ E, p ≤ e ∧ e ≤ 1073741824) → S.length + op = E.length → (∀ x, cnt E (x + 1) ≤ op + cnt S x) →
    (∀ o : List S56, o.length + S.length ≤ N → op = 0 → (∀ s ∈ S, p < s) → ∃ m, Ev (fun k => leadtrailref04_Norm.l1 k lo hi o 0 (pE.length : Int) (pS.length : Int)) (o ++ m, 0, 0) ∧ (∀ last, last ≤ p - 1 → ValidFrom 1073741823 last (m.map L56)) ∧ ∀ x, Mem (m.map L56) x ↔ cnt E x < cnt S x) ∧
    (∀ (o : List S56) (a z : Int), o.length + S.length + 1 ≤ N → 0 < op → 0 ≤ a → a ≤ p → (∀ e ∈ E, a < e) → ∃ m, Ev (fun k => leadtrailref04_Norm.l1 k lo hi (o ++ [⟨a, z⟩]) (op : Int) (pE.length : Int) (pS.length : Int)) (o ++ m, 0, 0) ∧ (∀ last, last < a - 1 → ValidFrom 1073741823 last (m.map L56)) ∧ ∀ x, Mem (m.map L56) x ↔ (a ≤ x ∧ x < p) ∨ (p ≤ x ∧ cnt E x < op + cnt S x))
  | n, S, E, pS, pE, p, op, hn, hS, hE, sS, sE, bS, bE, hop, hc => by
    have start : ∀ (s : Int) (S' : List Int) (o : List S56), S = s :: S' → E ≠ [] → (∀ e ∈ E, s ≤ e) → ∀ r, (Ev (fun k => if (op : Int) = 0 then (if o.length < 8796093022208 then leadtrailref04_Norm.l1 k lo hi (o ++ [(⟨s, 0⟩ : S56)]) ((op : Int) + 1) (pE.length : Int) ((pS.length : Int) + 1) else none) else leadtrailref04_Norm.l1 k lo hi o ((op : Int) + 1) (pE.length : Int) ((pS.length : Int) + 1)) r) → Ev (fun k => leadtrailref04_Norm.l1 k lo hi o (op : Int) (pE.length : Int) (pS.length : Int)) r := fun s S' o hs hE0 hle r hr => by
      obtain ⟨e, E', rfl⟩ := List.exists_cons_of_ne_nil hE0
      subst hs
      have c1 : (pS.length : Int) < (lo.length : Nat) := by rw [hS, len_cons]; omega
      have c2 : (0 : Int) ≤ pS.length := by omega
      have c3 : (0 : Int) ≤ pE.length := by omega
      have c4 : (pE.length : Int) < (hi.length : Nat) := by rw [hE, len_cons]; omega
      have r1 : rd lo (pS.length : Int) = s := by rw [hS]; exact rdI _ _ _
      have r2 : rd hi (pE.length : Int) = e := by rw [hE]; exact rdI _ _ _
      have h0 : s ≤ e := hle e List.mem_cons_self
      have ob : op ≤ N := by have := congrArg List.length hE; simp at this hop; omega
      have hw1 : Aside0 (wrap64 ((op : Int) + 1) = (op : Int) + 1) := Aside0.mk (w64 (by omega) (by omega))
      have hw2 : Aside0 (wrap64 ((pS.length : Int) + 1) = (pS.length : Int) + 1) := Aside0.mk (w64 (by omega) (by omega))
      refine evSucc (evSucc (evSucc ?_))
      simp only [leadtrailref04_Norm.l1, if_pos c1, leadtrailref04_Norm.j2, if_true, if_pos c2, if_pos c3, if_pos c4, r1, r2, decide_eq_true h0, leadtrailref04_Norm.j3, hw1.out, hw2.out]
      exact hr
    constructor
    · intro o ho h0 hp
      subst h0
      cases S with
      | nil =>
        obtain rfl : E = [] := List.eq_nil_of_length_eq_zero (by simpa using hop.symm)
        refine ⟨[], evSucc (evSucc ?_), fun _ _ => trivial, fun x => by simp [cnt_nil, Mem]⟩
        have d1 : ¬ (pS.length : Int) < (lo.length : Nat) := by rw [hS]; simp
        have d2 : ¬ (pE.length : Int) < (hi.length : Nat) := by rw [hE]; simp
        simp only [leadtrailref04_Norm.l1, if_neg d1, decide_eq_false d2, leadtrailref04_Norm.j2, Bool.false_eq_true, if_false]
        simpa using evNow (o, (0 : Int), (0 : Int))
      | cons s S' =>
        cases E with
        | nil => simp at hop
        | cons e E' =>
          have sS' := List.pairwise_cons.1 sS
          have sE' := List.pairwise_cons.1 sE
          have hse : s < e := by
            have h1 := hc (e - 1)
            rw [show e - 1 + 1 = e by omega, cnt_cons e, if_pos (Int.le_refl e)] at h1
            obtain ⟨y, hy, hle⟩ := cnt_pos (l := s :: S') (x := e - 1) (by omega)
            rcases List.mem_cons.1 hy with rfl | hy
            · omega
            · have := sS'.1 y hy; omega
          have hall : ∀ e' ∈ e :: E', s < e' := fun e' he' => by
            rcases List.mem_cons.1 he' with rfl | he'
            · exact hse
            · have := sE'.1 e' he'; omega
          have ihB := (sweep lo hi N hN hlo hhi (n - 1) S' (e :: E') (pS ++ [s]) pE s 1 (by simp at hn ⊢; omega) (by rw [app_snoc]; exact hS) hE sS'.2 sE
            (fun z hz => ⟨(bS z (List.mem_cons_of_mem _ hz)).1, sS'.1 z hz⟩) (fun z hz => ⟨Int.le_of_lt (hall z hz), (bE z hz).2⟩) (by simp at hop ⊢; omega)
            (fun x => by
              have h1 := hc x
              rw [cnt_cons s] at h1
              by_cases d : s ≤ x
              · rw [if_pos d] at h1; omega
              · have : cnt (e :: E') (x + 1) = 0 := cnt_zero fun y hy => by have := hall y hy; omega
                omega)).2 o s 0 (by simp at ho ⊢; omega) (by omega) (bS s List.mem_cons_self).1 (Int.le_refl _) hall
          obtain ⟨m, g1, g2, g3⟩ := ihB
          rw [snoc_len] at g1
          refine ⟨m, start s S' o rfl (by simp) (fun z hz => Int.le_of_lt (hall z hz)) _ ?_, fun last hl => g2 last (by have := hp s List.mem_cons_self; omega), fun x => ?_⟩
          · simp only [show ((0 : Nat) : Int) = 0 from rfl, if_true, if_pos (show o.length < 8796093022208 by simp at ho; omega)]
            exact g1
          · rw [g3 x, cnt_cons s]
            by_cases d : s ≤ x
            · rw [if_pos d]; omega
            · have : cnt S' x = 0 := cnt_zero fun y hy => by have := sS'.1 y hy; omega
              rw [if_neg d]; omega
    · intro o a z ho hop0 ha hap hae
      cases E with
      | nil => simp at hop; omega
      | cons e E' =>
        have sE' := List.pairwise_cons.1 sE
        by_cases hst : ∃ s S', S = s :: S' ∧ s ≤ e
        · obtain ⟨s, S', rfl, hse⟩ := hst
          have sS' := List.pairwise_cons.1 sS
          have hall : ∀ e' ∈ e :: E', s ≤ e' := fun e' he' => by
            rcases List.mem_cons.1 he' with rfl | he'
            · exact hse
            · have := sE'.1 e' he'; omega
          have hps := (bS s List.mem_cons_self).2
          have ihB := (sweep lo hi N hN hlo hhi (n - 1) S' (e :: E') (pS ++ [s]) pE s (op + 1) (by simp at hn ⊢; omega) (by rw [app_snoc]; exact hS) hE sS'.2 sE
            (fun z hz => ⟨(bS z (List.mem_cons_of_mem _ hz)).1, sS'.1 z hz⟩) (fun z hz => ⟨hall z hz, (bE z hz).2⟩) (by simp at hop ⊢; omega)
            (fun x => by
              have h1 := hc x
              rw [cnt_cons s] at h1
              split at h1 <;> omega)).2 o a z (by simp at ho ⊢; omega) (by omega) ha (by omega) hae
          obtain ⟨m, g1, g2, g3⟩ := ihB
          rw [snoc_len] at g1
          refine ⟨m, start s S' (o ++ [⟨a, z⟩]) rfl (by simp) hall _ ?_, g2, fun x => ?_⟩
          · simp only [if_neg (show ¬ (op : Int) = 0 by omega)]
            rw [show ((op : Int) + 1) = ((op + 1 : Nat) : Int) by omega]
            exact g1
          · rw [g3 x, cnt_cons s]
            by_cases d : s ≤ x
            · rw [if_pos d]; omega
            · have h1 : cnt (e :: E') x = 0 := cnt_zero fun y hy => by have := hall y hy; omega
              rw [if_neg d, h1]; omega
        · have hSe : ∀ s ∈ S, e < s := fun s hs => by
            cases S with
            | nil => cases hs
            | cons s0 S' =>
              have h1 : ¬ s0 ≤ e := fun h => hst ⟨s0, S', rfl, h⟩
              have sS' := List.pairwise_cons.1 sS
              rcases List.mem_cons.1 hs with rfl | hs
              · omega
              · have := sS'.1 s hs; omega
          have hpe := (bE e List.mem_cons_self)
          have hae0 := hae e List.mem_cons_self
          have c3 : (0 : Int) ≤ pE.length := by omega
          have c4 : (pE.length : Int) < (hi.length : Nat) := by rw [hE, len_cons]; omega
          have r2 : rd hi (pE.length : Int) = e := by rw [hE]; exact rdI _ _ _
          have ob : op ≤ N := by have := congrArg List.length hE; simp at this hop; omega
          have hw1 : Aside0 (wrap64 ((op : Int) - 1) = (op : Int) - 1) := Aside0.mk (w64 (by omega) (by omega))
          have hw2 : Aside0 (wrap64 ((pE.length : Int) + 1) = (pE.length : Int) + 1) := Aside0.mk (w64 (by omega) (by omega))
          have ol : (((o ++ [(⟨a, z⟩ : S56)]).length : Nat) : Int) = (o.length : Int) + 1 := snoc_len o _
          have hw3 : Aside0 (wrap64 ((((o ++ [(⟨a, z⟩ : S56)]).length : Nat) : Int) - 1) = (o.length : Int)) := Aside0.mk (by rw [ol, w64 (by omega) (by omega)]; omega)
          have hw4 : Aside0 (wrap64 (e - 1) = e - 1) := Aside0.mk (w64 (by omega) (by omega))
          have c5 : (0 : Int) ≤ (o.length : Int) := by omega
          have c6 : (o.length : Int) < (((o ++ [(⟨a, z⟩ : S56)]).length : Nat) : Int) := by omega
          have r3 : rd_T56 (o ++ [(⟨a, z⟩ : S56)]) (o.length : Int) = ⟨a, z⟩ := rd56 o _ []
          have e9 : (o ++ [(⟨a, z⟩ : S56)]).set (o.length : Int).toNat (⟨a, e - 1⟩ : S56) = o ++ [⟨a, e - 1⟩] := by simp
          have close : ∀ r, Ev (fun k => if (op : Int) - 1 = 0 then leadtrailref04_Norm.l1 k lo hi (o ++ [(⟨a, e - 1⟩ : S56)]) ((op : Int) - 1) ((pE.length : Int) + 1) (pS.length : Int) else leadtrailref04_Norm.l1 k lo hi (o ++ [(⟨a, z⟩ : S56)]) ((op : Int) - 1) ((pE.length : Int) + 1) (pS.length : Int)) r → Ev (fun k => leadtrailref04_Norm.l1 k lo hi (o ++ [(⟨a, z⟩ : S56)]) (op : Int) (pE.length : Int) (pS.length : Int)) r := fun r hr => by
            refine evSucc (evSucc (evSucc ?_))
            cases S with
            | nil =>
              have d1 : ¬ (pS.length : Int) < (lo.length : Nat) := by rw [hS]; simp
              simp only [leadtrailref04_Norm.l1, if_neg d1, decide_eq_true c4, leadtrailref04_Norm.j2, if_true, leadtrailref04_Norm.j3, Bool.false_eq_true, if_false, hw1.out, hw2.out, hw3.out, hw4.out, if_pos c3, if_pos c4, if_pos c5, if_pos c6, r2, r3, e9]
              exact hr
            | cons s S' =>
              have d1 : (pS.length : Int) < (lo.length : Nat) := by rw [hS, len_cons]; omega
              have d2 : (0 : Int) ≤ pS.length := by omega
              have r1 : rd lo (pS.length : Int) = s := by rw [hS]; exact rdI _ _ _
              have d3 : ¬ s ≤ e := by have := hSe s List.mem_cons_self; omega
              simp only [leadtrailref04_Norm.l1, if_pos d1, leadtrailref04_Norm.j2, if_true, if_pos d2, if_pos c3, if_pos c4, r1, r2, decide_eq_false d3, leadtrailref04_Norm.j3, Bool.false_eq_true, if_false, hw1.out, hw2.out, hw3.out, hw4.out, if_pos c5, if_pos c6, r3, e9]
              exact hr
          have hcE : ∀ x, cnt E' (x + 1) ≤ (op - 1) + cnt S x := fun x => by
            have h1 := hc x
            rw [cnt_cons e] at h1
            by_cases d : e ≤ x + 1
            · rw [if_pos d] at h1; omega
            · have : cnt E' (x + 1) = 0 := cnt_zero fun y hy => by have := sE'.1 y hy; omega
              omega
          have ih := sweep lo hi N hN hlo hhi (n - 1) S E' pS (pE ++ [e]) e (op - 1) (by simp at hn ⊢; omega) hS (by rw [app_snoc]; exact hE) sS sE'.2
            (fun s hs => ⟨(bS s hs).1, Int.le_of_lt (hSe s hs)⟩) (fun z hz => ⟨sE'.1 z hz, (bE z (List.mem_cons_of_mem _ hz)).2⟩) (by simp at hop ⊢; omega) hcE
          by_cases h1 : op = 1
          · subst h1
            obtain ⟨m, g1, g2, g3⟩ := ih.1 (o ++ [⟨a, e - 1⟩]) (by simp; omega) rfl hSe
            rw [snoc_len] at g1
            refine ⟨⟨a, e - 1⟩ :: m, close _ ?_, fun last hlast => ⟨ha, ?_, ?_, hlast, g2 _ (Int.le_refl _)⟩, fun x => ?_⟩
            · simp only [show ((1 : Nat) : Int) - 1 = 0 from rfl, if_true]
              simpa using g1
            · show a ≤ e - 1; omega
            · show e - 1 ≤ 1073741823; omega
            · rw [List.map_cons, mem_cons, g3 x, cnt_cons e]
              show (a ≤ x ∧ x ≤ e - 1) ∨ _ ↔ _
              by_cases d : e ≤ x
              · rw [if_pos d]; omega
              · have h2 : cnt E' x = 0 := cnt_zero fun y hy => by have := sE'.1 y hy; omega
                have h3 : cnt S x = 0 := cnt_zero fun y hy => by have := hSe y hy; omega
                rw [if_neg d, h2, h3]; omega
          · obtain ⟨m, g1, g2, g3⟩ := ih.2 o a z (by omega) (by omega) ha (by omega) (fun e' he' => hae e' (List.mem_cons_of_mem _ he'))
            rw [snoc_len] at g1
            refine ⟨m, close _ ?_, g2, fun x => ?_⟩
            · simp only [if_neg (show ¬ (op : Int) - 1 = 0 by omega)]
              rw [show ((op : Int) - 1) = ((op - 1 : Nat) : Int) by omega]
              exact g1
            · rw [g3 x, cnt_cons e]
              by_cases d : e ≤ x
              · rw [if_pos d]; omega
              · have h2 : cnt E' x = 0 := cnt_zero fun y hy => by have := sE'.1 y hy; omega
                have h3 : cnt S x = 0 := cnt_zero fun y hy => by have := hSe y hy; omega
                rw [if_neg d, h2, h3]; omega
termination_by _ S E => S.length + E.length
