/- Words and walks of this claim, of the text PB3Ref03. -/
import Derived.Test.YtkcklnmbeinfkaaKdBx0
import Derived.Test.YtkcklnmbeinfkaaKdBx11
import Derived.Test.YtkcklnmbeinfkaaKdBx12
import Derived.Test.YtkcklnmbeinfkaaKdBx13
import Derived.Test.YtkcklnmbeinfkaaKdPB3Valid
namespace Go.Proofs.Ytkcklnmbeinfkaa.PB3
open Go.RowKit Go.Proofs.YtkcklnmbeinfkaaW.PrintWords Go.Proofs.YtkcklnmbeinfkaaW.PrintLast Go.Proofs.YtkcklnmbeinfkaaW.PrintMore Go.Proofs.Ytkcklnmbeinfkaa.B Go.Proofs.LT
set_option linter.unusedVariables false
set_option linter.unusedSimpArgs false
theorem refValid_loop (N : Nat) (hN : N ≤ 8796093022206) : ∀ (t q : List S113) (p : S113), (q ++ p :: t).length ≤ N → p.f1 ≤ 255 → 0 ≤ p.f1 → Ev (fun k => leadtrailref03_Valid.l0 k (q ++ p :: t) ((q.length : Int) + 1)) (validB 255 p.f1 (t.map L113))
  | [], q, p, _, _, _ => by
    refine evSucc ?_
    have hlc := len_cons q p []
    have c1 : ¬ (q.length : Int) + 1 < ((q ++ [p]).length : Nat) := by rw [hlc]; simp
    simp only [leadtrailref03_Valid.l0, if_neg c1]
    rw [show validB 255 p.f1 (([] : List S113).map L113) = true from validB_nil _ _]
    exact evNow _
  | r :: t, q, p, hl, hp, hp0 => by
    have hlc := len_cons q p (r :: t)
    have e1 : q ++ p :: r :: t = (q ++ [p]) ++ r :: t := by simp
    have e2 : ((q.length : Int) + 1) = ((q ++ [p]).length : Nat) := by simp
    have rr : rd_T113 (q ++ p :: r :: t) ((q.length : Int) + 1) = r := by rw [e1, e2]; exact rd113 _ _ _
    have rp : rd_T113 (q ++ p :: r :: t) (q.length : Int) = p := rd113 _ _ _
    have hq : q.length ≤ N := by simp at hl; omega
    have c1 : (q.length : Int) + 1 < ((q ++ p :: r :: t).length : Nat) := by rw [hlc]; simp; omega
    have c2 : (0 : Int) ≤ (q.length : Int) + 1 := by omega
    have c3 : (q.length : Int) + 1 > 0 := by omega
    have c4 : (0 : Int) ≤ (q.length : Int) := by omega
    have c5 : (q.length : Int) < ((q ++ p :: r :: t).length : Nat) := by omega
    have hw1 : Aside0 (wrap64 ((q.length : Int) + 1 - 1) = (q.length : Int)) := Aside0.mk (by rw [w64 (by omega) (by omega)]; omega)
    have hw2 : Aside0 (wrap64 ((q.length : Int) + 1 + 1) = (q.length : Int) + 1 + 1) := Aside0.mk (w64 (by omega) (by omega))
    have hw3 : Aside0 (wrap64 (p.f1 + 1) = p.f1 + 1) := Aside0.mk (w64 (by omega) (by omega))
    refine evSucc ?_
    simp only [leadtrailref03_Valid.l0, if_pos c1, if_pos c2, if_pos c3, rr, hw1.out, hw2.out, hw3.out, if_pos c4, if_pos c5, rp, List.map_cons, validB_cons]
    show Ev _ (if r.f0 < 0 then false else if r.f0 > r.f1 then false else if r.f1 > 255 then false else if r.f0 - 1 ≤ p.f1 then false else validB 255 r.f1 (t.map L113))
    by_cases d1 : r.f0 < 0
    · simp only [if_pos d1]; exact evNow _
    by_cases d2 : r.f0 > r.f1
    · simp only [if_neg d1, if_pos d2]; exact evNow _
    by_cases d3 : r.f1 > 255
    · simp only [if_neg d1, if_neg d2, if_pos d3]; exact evNow _
    by_cases d4 : r.f0 ≤ p.f1 + 1
    · simp only [if_neg d1, if_neg d2, if_neg d3, if_pos d4, if_pos (show r.f0 - 1 ≤ p.f1 by omega)]; exact evNow _
    · have ih := refValid_loop N hN t (q ++ [p]) r (by rw [← e1]; exact hl) (by omega) (by omega)
      rw [← e1, ← e2] at ih
      simp only [if_neg d1, if_neg d2, if_neg d3, if_neg d4, if_neg (show ¬ r.f0 - 1 ≤ p.f1 by omega)]
      exact ih
theorem refValid_is (l : List S113) (hl : l.length * 16 ≤ 140737488351232) : Ev (fun k => leadtrailref03_Valid.f k l) (validB 255 (-2) (l.map L113)) := by
  simp only [leadtrailref03_Valid.f]
  cases l with
  | nil =>
    refine evSucc ?_
    simp only [leadtrailref03_Valid.l0, List.length_nil, if_neg (show ¬ (0 : Int) < ((0 : Nat) : Int) by omega), List.map_nil, validB_nil]
    exact evNow _
  | cons r t =>
    have c1 : (0 : Int) < (((r :: t).length : Nat) : Int) := by rw [List.length_cons]; omega
    have r1 : rd_T113 (r :: t) 0 = r := rfl
    have hw : Aside0 (wrap64 ((0 : Int) + 1) = 1) := Aside0.mk (by rw [w64 (by omega) (by omega)]; rfl)
    refine evSucc ?_
    simp only [leadtrailref03_Valid.l0, if_pos c1, if_pos (show (0 : Int) ≤ 0 by omega), r1, if_neg (show ¬ (0 : Int) > 0 by omega), hw.out, List.map_cons, validB_cons]
    show Ev _ (if r.f0 < 0 then false else if r.f0 > r.f1 then false else if r.f1 > 255 then false else if r.f0 - 1 ≤ -2 then false else validB 255 r.f1 (t.map L113))
    by_cases d1 : r.f0 < 0
    · simp only [if_pos d1]; exact evNow _
    by_cases d2 : r.f0 > r.f1
    · simp only [if_neg d1, if_pos d2]; exact evNow _
    by_cases d3 : r.f1 > 255
    · simp only [if_neg d1, if_neg d2, if_pos d3]; exact evNow _
    simp only [if_neg d1, if_neg d2, if_neg d3, if_neg (show ¬ r.f0 - 1 ≤ -2 by omega)]
    exact refValid_loop (r :: t).length (by omega) t [] r (by simp) (by omega) (by omega)
theorem memb_is (l : List S113) (hl : l.length * 16 ≤ 140737488351232) : ∃ p, Ev (fun k => leadtrailref03_memb k l) p ∧ ∀ i : Nat, p i = memB (setL 255 (l.map L113)) i := by
  have h := refValid_is l hl
  by_cases d : validB 255 (-2) (l.map L113) = true
  · have hv := (validB_iff _ _ _).1 d
    have hall : l.all okPiece = true := List.all_eq_true.2 fun r hr => by
      have := hv.each (L113 r) (List.mem_map.2 ⟨r, hr, rfl⟩)
      have e : (L113 r).1 = r.f0 ∧ (L113 r).2 = r.f1 := ⟨rfl, rfl⟩
      rw [e.1, e.2] at this
      simp [okPiece]; omega
    refine ⟨membersB true l, Ev.bind h ?_, fun i => ?_⟩
    · simp only [if_pos (show l.length ≤ 8796093022207 by omega), if_pos d, if_pos hall]; exact evNow _
    · rw [setL_of hv, Bool.eq_iff_iff, memB_iff]
      simp only [membersB, hasAny, pieceHas, Bool.true_and, List.any_eq_true, Bool.and_eq_true, decide_eq_true_iff]
      exact ⟨fun ⟨r, hr, h1, h2⟩ => ⟨L113 r, List.mem_map.2 ⟨r, hr, rfl⟩, h1, h2⟩, fun ⟨q, hq, h1, h2⟩ => by
        obtain ⟨r, hr, rfl⟩ := List.mem_map.1 hq
        exact ⟨r, hr, h1, h2⟩⟩
  · refine ⟨membersB false l, Ev.bind h ?_, fun i => ?_⟩
    · simp only [if_pos (show l.length ≤ 8796093022207 by omega), if_neg d]; exact evNow _
    · have e : setL 255 (l.map L113) = [] := by unfold setL; rw [if_neg d]
      rw [e]
      have : memB [] (i : Int) = false := by
        cases hm : memB [] (i : Int)
        · rfl
        · exact (Mem.nil (memB_iff.1 hm)).elim
      rw [this]; simp [membersB]
theorem cnt_cd {p : Nat → Bool} {s : List Run} (h : ∀ i : Nat, p i = memB s i) : ∀ n, cntB p n = cd (memB s) n
  | 0 => (cd_zero _).symm
  | n + 1 => by rw [cd_succ, ← cnt_cd h n, ← h n]; rfl
theorem refSize_is (l : List S113) (hl : l.length * 16 ≤ 140737488351232) : Ev (fun k => leadtrailref03_Size.f k l) (size (setL 255 (l.map L113))) := by
  obtain ⟨p, h1, h2⟩ := memb_is l hl
  refine Ev.bind h1 ?_
  rw [cnt_cd h2 256, cd_size (n := 256) (setL_valid 255 (l.map L113)) (by omega)]
  exact evNow _
theorem hasP_is {p : Nat → Bool} {s : List Run} (hv : ValidFrom 255 (-2) s) (h : ∀ i : Nat, p i = memB s i) (x : Int) : hasP p x = memB s x := by
  unfold hasP
  by_cases c : 0 ≤ x
  · by_cases d : x ≤ 255
    · rw [if_pos c, if_pos d, h x.toNat, Int.toNat_of_nonneg c]
    · rw [if_pos c, if_neg d]
      cases hm : memB s x
      · rfl
      · have := hv.range (memB_iff.1 hm); omega
  · rw [if_neg c]
    cases hm : memB s x
    · rfl
    · have := hv.range (memB_iff.1 hm); omega
theorem refHas_is (l : List S113) (x : Int) (hl : l.length * 16 ≤ 140737488351232) : Ev (fun k => leadtrailref03_Has.f k l x) (memB (setL 255 (l.map L113)) x) := by
  obtain ⟨p, h1, h2⟩ := memb_is l hl
  refine Ev.bind h1 ?_
  rw [hasP_is (setL_valid _ _) h2]
  exact evNow _
theorem refRank_is (l : List S113) (x : Int) (hl : l.length * 16 ≤ 140737488351232) : Ev (fun k => leadtrailref03_Rank.f k l x) (rankL (setL 255 (l.map L113)) x) := by
  obtain ⟨p, h1, h2⟩ := memb_is l hl
  refine Ev.bind h1 ?_
  have e : ((if hasP p x = true then (cntB p x.toNat : Int) else 0), hasP p x) = rankL (setL 255 (l.map L113)) x := by
    rw [hasP_is (setL_valid _ _) h2, cnt_cd h2]
    unfold rankL
    by_cases d : memB (setL 255 (l.map L113)) x = true
    · rw [if_pos d, if_pos d, d]
    · rw [if_neg d, if_neg d, show memB (setL 255 (l.map L113)) x = false by simpa using d]
  rw [e]
  exact evNow _
theorem sel_is {p : Nat → Bool} {s : List Run} (hv : ValidFrom 255 (-2) s) (h : ∀ i : Nat, p i = memB s i) (k : Int) : ∀ f x : Nat, f + x = 256 → (∀ y, y < x → ¬ (p y = true ∧ (cntB p y : Int) = k)) → Sel s k (selB p k f x)
  | 0, x, hx, hn => by
    refine .inr ⟨?_, rfl⟩
    by_cases c : k < 0
    · exact .inl c
    · refine .inr (Int.not_lt.1 fun hlt => ?_)
      have hz := cd_size (n := 256) hv (by omega)
      obtain ⟨m, m1, m2, m3⟩ := cd_exists (memB s) (n := 256) (k := k.toNat) (by omega)
      exact hn m (by omega) ⟨by rw [h m]; exact m2, by rw [cnt_cd h, m3]; omega⟩
  | f + 1, x, hx, hn => by
    unfold selB
    by_cases d : p x = true ∧ (cntB p x : Int) = k
    · rw [if_pos d]
      refine .inl ⟨(x : Int), memB_iff.1 (by rw [← h x]; exact d.1), ?_, rfl⟩
      rw [Int.toNat_natCast, ← cnt_cd h]; exact d.2
    · rw [if_neg d]
      refine sel_is hv h k f (x + 1) (by omega) fun y hy => ?_
      by_cases e : y = x
      · rw [e]; exact d
      · exact hn y (by omega)
theorem refSelect_is (l : List S113) (kk : Int) (hl : l.length * 16 ≤ 140737488351232) : ∃ r, Ev (fun k => leadtrailref03_Select.f k l kk) r ∧ Sel (setL 255 (l.map L113)) kk r := by
  obtain ⟨p, h1, h2⟩ := memb_is l hl
  exact ⟨_, Ev.bind h1 (evNow _), sel_is (setL_valid _ _) h2 kk 256 0 rfl fun y hy => by omega⟩
end Go.Proofs.Ytkcklnmbeinfkaa.PB3
