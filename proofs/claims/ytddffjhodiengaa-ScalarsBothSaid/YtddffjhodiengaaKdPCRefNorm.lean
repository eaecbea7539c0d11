/- Words and walks of this claim, of the text PCRefNorm. -/
import Derived.Test.YtddffjhodiengaaKdCx0
import Derived.Test.YtddffjhodiengaaKdCx5
import Derived.Test.YtddffjhodiengaaKdCx6
import Derived.Test.YtddffjhodiengaaKdCx7
import Derived.Test.YtddffjhodiengaaKdPCSets
namespace Go.Proofs.Ytddffjhodiengaa.PC
open Go.RowKit Go.Proofs.YtddffjhodiengaaW.PrintWords Go.Proofs.YtddffjhodiengaaW.PrintLast Go.Proofs.YtddffjhodiengaaW.PrintMore Go.Proofs.Ytddffjhodiengaa.C Go.Proofs.LT
set_option linter.unusedVariables false
set_option linter.unusedSimpArgs false
theorem rdI (pre : List Int) (r : Int) (t : List Int) : rd (pre ++ r :: t) (pre.length : Int) = r := by simp [rd]
def mergeL : List Int → List Int → List Int
  | [], b => b
  | x :: a, [] => x :: a
  | x :: a, y :: b => if x ≤ y then x :: mergeL a (y :: b) else y :: mergeL (x :: a) b
termination_by a b => a.length + b.length
theorem mergeL_perm : ∀ (n : Nat) (a b : List Int), a.length + b.length = n → (mergeL a b).Perm (a ++ b)
  | _, [], b, _ => by unfold mergeL; exact List.Perm.refl _
  | _, x :: a, [], _ => by unfold mergeL; simp
  | 0, x :: a, y :: b, h => by simp at h
  | n + 1, x :: a, y :: b, h => by
    unfold mergeL
    split
    · exact (mergeL_perm n a (y :: b) (by simp at h ⊢; omega)).cons x
    · refine ((mergeL_perm n (x :: a) b (by simp at h ⊢; omega)).cons y).trans ?_
      exact (List.perm_middle (l₁ := x :: a) (l₂ := b) (a := y)).symm
theorem mergeL_sorted : ∀ (n : Nat) (a b : List Int), a.length + b.length = n → a.Pairwise (· ≤ ·) → b.Pairwise (· ≤ ·) → (mergeL a b).Pairwise (· ≤ ·)
  | _, [], b, _, _, hb => by unfold mergeL; exact hb
  | _, x :: a, [], _, ha, _ => by unfold mergeL; exact ha
  | 0, x :: a, y :: b, h, _, _ => by simp at h
  | n + 1, x :: a, y :: b, h, ha, hb => by
    have ha' := List.pairwise_cons.1 ha
    have hb' := List.pairwise_cons.1 hb
    unfold mergeL
    split
    · rename_i d
      refine List.pairwise_cons.2 ⟨fun z hz => ?_, mergeL_sorted n a (y :: b) (by simp at h ⊢; omega) ha'.2 hb⟩
      have := (mergeL_perm n a (y :: b) (by simp at h ⊢; omega)).mem_iff.1 hz
      rcases List.mem_append.1 this with hz | hz
      · exact ha'.1 z hz
      · rcases List.mem_cons.1 hz with rfl | hz
        · exact d
        · exact Int.le_trans d (hb'.1 z hz)
    · rename_i d
      refine List.pairwise_cons.2 ⟨fun z hz => ?_, mergeL_sorted n (x :: a) b (by simp at h ⊢; omega) ha hb'.2⟩
      have := (mergeL_perm n (x :: a) b (by simp at h ⊢; omega)).mem_iff.1 hz
      rcases List.mem_append.1 this with hz | hz
      · rcases List.mem_cons.1 hz with rfl | hz
        · omega
        · exact Int.le_trans (by omega) (ha'.1 z hz)
      · exact hb'.1 z hz
theorem merged_loop (N : Nat) (hN : N ≤ 8796093022206) : ∀ (n : Nat) (ta tb pa pb out : List Int), ta.length + tb.length = n → (pa ++ ta).length ≤ N → (pb ++ tb).length ≤ N → out.length + ta.length + tb.length ≤ N + N →
    Ev (fun k => leadtrailref04_merged.l0 k (pa ++ ta) (pb ++ tb) out (pa.length : Int) (pb.length : Int)) (out ++ mergeL ta tb)
  | _, [], [], pa, pb, out, _, _, _, _ => by
    refine evSucc (evSucc ?_)
    simp only [leadtrailref04_merged.l0, List.append_nil]
    simp only [if_neg (show ¬ ((pa.length : Nat) : Int) < ((pa.length : Nat) : Int) by omega), leadtrailref04_merged.j1, decide_eq_false (show ¬ ((pb.length : Nat) : Int) < ((pb.length : Nat) : Int) by omega), Bool.false_eq_true, if_false]
    unfold mergeL
    simpa using evNow out
  | 0, x :: ta, _, _, _, _, h, _, _, _ => by simp at h
  | 0, [], y :: tb, _, _, _, h, _, _, _ => by simp at h
  | n + 1, [], y :: tb, pa, pb, out, h, ha, hb, ho => by
    have hlb := len_cons pb y tb
    have ih := merged_loop N hN n [] tb pa (pb ++ [y]) (out ++ [y]) (by simp at h ⊢; omega) ha (by rw [app_snoc]; exact hb) (by simp at ho ⊢; omega)
    rw [app_snoc, snoc_len] at ih
    have c1 : (pb.length : Int) < ((pb ++ y :: tb).length : Nat) := by rw [hlb]; omega
    have c2 : (0 : Int) ≤ pb.length := by omega
    have c3 : ¬ (pb.length : Int) = ((pb ++ y :: tb).length : Nat) := by omega
    have hlt : out.length < 17592186044416 := by simp at ho; omega
    have hw : Aside0 (wrap64 ((pb.length : Int) + 1) = (pb.length : Int) + 1) := Aside0.mk (w64 (by omega) (by simp at hb; omega))
    refine evSucc (evSucc ?_)
    simp only [leadtrailref04_merged.l0, List.append_nil] at ih ⊢
    simp only [if_neg (show ¬ ((pa.length : Nat) : Int) < ((pa.length : Nat) : Int) by omega), leadtrailref04_merged.j1, decide_eq_true c1, if_true, if_neg c3, if_pos c1, if_pos c2, if_pos hlt, rdI, hw.out]
    unfold mergeL
    unfold mergeL at ih
    simpa using ih
  | n + 1, x :: ta, [], pa, pb, out, h, ha, hb, ho => by
    have hla := len_cons pa x ta
    have ih := merged_loop N hN n ta [] (pa ++ [x]) pb (out ++ [x]) (by simp at h ⊢; omega) (by rw [app_snoc]; exact ha) hb (by simp at ho ⊢; omega)
    rw [app_snoc, snoc_len] at ih
    have c1 : (pa.length : Int) < ((pa ++ x :: ta).length : Nat) := by rw [hla]; omega
    have c2 : (0 : Int) ≤ pa.length := by omega
    have hlt : out.length < 17592186044416 := by simp at ho; omega
    have hw : Aside0 (wrap64 ((pa.length : Int) + 1) = (pa.length : Int) + 1) := Aside0.mk (w64 (by omega) (by simp at ha; omega))
    refine evSucc (evSucc ?_)
    simp only [leadtrailref04_merged.l0, List.append_nil] at ih ⊢
    simp only [if_pos c1, leadtrailref04_merged.j1, if_true, if_pos c2, if_pos hlt, rdI, hw.out]
    have e : out ++ mergeL (x :: ta) [] = (out ++ [x]) ++ mergeL ta [] := by
      unfold mergeL
      cases ta with
      | nil => unfold mergeL; simp
      | cons z ta => unfold mergeL; simp
    rw [e]
    exact ih
  | n + 1, x :: ta, y :: tb, pa, pb, out, h, ha, hb, ho => by
    have hla := len_cons pa x ta
    have hlb := len_cons pb y tb
    have c1 : (pa.length : Int) < ((pa ++ x :: ta).length : Nat) := by rw [hla]; omega
    have c2 : (0 : Int) ≤ pa.length := by omega
    have d1 : (pb.length : Int) < ((pb ++ y :: tb).length : Nat) := by rw [hlb]; omega
    have d2 : (0 : Int) ≤ pb.length := by omega
    have d3 : ¬ (pb.length : Int) = ((pb ++ y :: tb).length : Nat) := by omega
    have hlt : out.length < 17592186044416 := by simp at ho; omega
    have hwa : Aside0 (wrap64 ((pa.length : Int) + 1) = (pa.length : Int) + 1) := Aside0.mk (w64 (by omega) (by simp at ha; omega))
    have hwb : Aside0 (wrap64 ((pb.length : Int) + 1) = (pb.length : Int) + 1) := Aside0.mk (w64 (by omega) (by simp at hb; omega))
    refine evSucc (evSucc ?_)
    simp only [leadtrailref04_merged.l0]
    simp only [if_pos c1, leadtrailref04_merged.j1, if_true, if_pos c2, if_neg d3, if_pos d1, if_pos d2, rdI]
    by_cases d : x ≤ y
    · have ih := merged_loop N hN n ta (y :: tb) (pa ++ [x]) pb (out ++ [x]) (by simp at h ⊢; omega) (by rw [app_snoc]; exact ha) hb (by simp at ho ⊢; omega)
      rw [app_snoc, snoc_len] at ih
      simp only [if_pos d, if_pos hlt, hwa.out]
      have e : out ++ mergeL (x :: ta) (y :: tb) = (out ++ [x]) ++ mergeL ta (y :: tb) := by
        rw [mergeL]; rw [if_pos d]; simp
      rw [e]
      exact ih
    · have ih := merged_loop N hN n (x :: ta) tb pa (pb ++ [y]) (out ++ [y]) (by simp at h ⊢; omega) ha (by rw [app_snoc]; exact hb) (by simp at ho ⊢; omega)
      rw [app_snoc, snoc_len] at ih
      simp only [if_neg d, if_pos hlt, hwb.out]
      have e : out ++ mergeL (x :: ta) (y :: tb) = (out ++ [y]) ++ mergeL (x :: ta) tb := by
        rw [mergeL]; rw [if_neg d]; simp
      rw [e]
      exact ih
theorem merged_is (a b : List Int) (ha : a.length ≤ 8796093022206) (hb : b.length ≤ 8796093022206) : Ev (fun k => leadtrailref04_merged.f k a b) (mergeL a b) := by
  have h := merged_loop 8796093022206 (Nat.le_refl _) _ a b [] [] [] rfl (by simpa using ha) (by simpa using hb) (by simp; omega)
  simpa [leadtrailref04_merged.f] using h
def cnt (l : List Int) (x : Int) : Nat := l.countP fun y => decide (y ≤ x)
attribute [irreducible] cnt
