/- Words and walks of this claim, of the text PBSShapeB. -/
import Derived.Test.YtkcklnmbeinfkaaKdBx13
import Derived.Test.YtkcklnmbeinfkaaKdBx14
import Derived.Test.YtkcklnmbeinfkaaKdBx15
import Derived.Test.YtkcklnmbeinfkaaKdBx16
import Derived.Test.YtkcklnmbeinfkaaKdPBSShapeA
import Derived.Test.YtkcklnmbeinfkaaKdPBSShapeRanks
namespace Go.Proofs.Ytkcklnmbeinfkaa.PBS
open Go.RowKit Go.Proofs.YtkcklnmbeinfkaaW.PrintWords Go.Proofs.YtkcklnmbeinfkaaW.PrintLast Go.Proofs.YtkcklnmbeinfkaaW.PrintMore Go.Proofs.Ytkcklnmbeinfkaa.B Go.Proofs.LT Go.Proofs.Ytkcklnmbeinfkaa.PB3
set_option linter.unusedVariables false
set_option linter.unusedSimpArgs false
theorem div_mod_mul {k n c : Int} (hc : 0 < c) (hn : 0 < n) : k / (n * c) = k / c / n ∧ k % (n * c) = (k / c % n) * c + k % c := by
  have h1 := Int.emod_nonneg k (show c ≠ 0 by omega)
  have h2 := Int.emod_lt_of_pos k hc
  have h3 := Int.emod_nonneg (k / c) (show n ≠ 0 by omega)
  have h4 := Int.emod_lt_of_pos (k / c) hn
  have e1 := Int.ediv_mul_add_emod k c
  have e2 := Int.ediv_mul_add_emod (k / c) n
  have m0 := Int.mul_nonneg h3 (show 0 ≤ c by omega)
  have m1 := Int.mul_le_mul_of_nonneg_right (show k / c % n + 1 ≤ n by omega) (show 0 ≤ c by omega)
  rw [Int.add_mul, Int.one_mul] at m1
  refine (Int.ediv_emod_unique (Int.mul_pos hn hc)).2 ⟨?_, by omega, by omega⟩
  have e3 : n * c * (k / c / n) = k / c / n * n * c := by rw [Int.mul_comm, Int.mul_assoc]
  rw [e3]
  have e4 : k / c * c = (k / c / n * n + k / c % n) * c := by rw [e2]
  rw [Int.add_mul] at e4
  omega
theorem refSelect_at (p : List Sp) (d : Int) (hi : In1 p) (hk : okPart p = true) (h0 : 0 ≤ d) (h1 : d < size (runs p)) : Ev (fun k => leadtrailref03_Select.f k p d) (selV (runs p) d, true) := by
  have hs := okPart_good hk
  obtain ⟨r, r1, r2⟩ := refSelect_is p d hi
  rw [show p.map L113 = runs p from rfl, setL_of hs.1] at r2
  have hS := selV_spec hs.1 h0 h1
  obtain rfl := Sel.uniq hs.1 r2 (.inl ⟨_, hS.1, hS.2, rfl⟩)
  exact r1
theorem refUnrank_loop (ps : List (List Sp)) (a K : Int) (hI : In2 ps) (hk : ps.all okPart = true) (hl : ps.length ≤ 8) (hc : cnt (sets ps) ≤ 1073741824) (k0 : 0 ≤ K) (k1 : K < cnt (sets ps)) : ∀ (i : Nat), i ≤ ps.length →
    Ev (fun k => leadtrailref09_Unrank.l0 k (K / cnt (sets (ps.drop i))) ((i : Int) - 1) (List.replicate i 0 ++ unr (sets (ps.drop i)) (K % cnt (sets (ps.drop i)))) ps a) (unr (sets ps) K, true)
  | 0, _ => by
    refine evSucc ?_
    rw [List.drop_zero, Int.emod_eq_of_lt k0 k1]
    simp only [leadtrailref09_Unrank.l0, if_neg (show ¬ (((0 : Nat) : Int) - 1 ≥ 0) by omega)]
    simpa using evNow (unr (sets ps) K, true)
  | i + 1, hi => by
    have hil : i < ps.length := by omega
    have ih := refUnrank_loop ps a K hI hk hl hc k0 k1 i (by omega)
    have hg := good_of hk
    have hp := good_part hk hil
    have hs := okPart_good hp
    have hz := size_256 hs.1
    have hpos : 1 ≤ cnt (sets (ps.drop (i + 1))) := by have := cnt_pos (hg.drop (i + 1)); rwa [sets_drop] at this
    have hcs := cnt_step ps i hil
    obtain ⟨e1, e2⟩ := div_mod_mul (k := K) (show 0 < cnt (sets (ps.drop (i + 1))) by omega) (show 0 < size (runs ps[i]) by omega)
    rw [← hcs] at e1 e2
    have q0 : 0 ≤ K / cnt (sets (ps.drop (i + 1))) := Int.ediv_nonneg k0 (by omega)
    have q1 : K / cnt (sets (ps.drop (i + 1))) ≤ K := Int.ediv_le_self _ k0
    have d0 := Int.emod_nonneg (K / cnt (sets (ps.drop (i + 1)))) (show size (runs ps[i]) ≠ 0 by omega)
    have d1 := Int.emod_lt_of_pos (K / cnt (sets (ps.drop (i + 1)))) (show 0 < size (runs ps[i]) by omega)
    have r0 := Int.emod_nonneg K (show cnt (sets (ps.drop (i + 1))) ≠ 0 by omega)
    have r1 := Int.emod_lt_of_pos K (show 0 < cnt (sets (ps.drop (i + 1))) by omega)
    have hr := hs.1.range (selV_spec hs.1 d0 d1).1
    have t1 : Int.tdiv (K / cnt (sets (ps.drop (i + 1)))) (size (runs ps[i])) = K / cnt (sets (ps.drop i)) := by rw [Int.tdiv_eq_ediv_of_nonneg q0, e1]
    have t2 : Int.tmod (K / cnt (sets (ps.drop (i + 1)))) (size (runs ps[i])) = K / cnt (sets (ps.drop (i + 1))) % size (runs ps[i]) := Int.tmod_eq_emod_of_nonneg q0
    have q3 : 0 ≤ K / cnt (sets (ps.drop i)) := by rw [e1]; exact Int.ediv_nonneg q0 (by omega)
    have q4 : K / cnt (sets (ps.drop i)) ≤ K := by rw [e1]; exact Int.le_trans (Int.ediv_le_self _ q0) q1
    have hw : Aside0 (wrap64 (K / cnt (sets (ps.drop i))) = K / cnt (sets (ps.drop i))) := Aside0.mk (w64 (by omega) (by omega))
    have hw2 : Aside0 (wrap64 ((i : Int) - 1) = (i : Int) - 1) := Aside0.mk (w64 (by omega) (by omega))
    have hm : selV (runs ps[i]) (K / cnt (sets (ps.drop (i + 1))) % size (runs ps[i])) % 256 = selV (runs ps[i]) (K / cnt (sets (ps.drop (i + 1))) % size (runs ps[i])) := Int.emod_eq_of_lt hr.1 (by omega)
    have hlen : ((List.replicate (i + 1) (0 : Int) ++ unr (sets (ps.drop (i + 1))) (K % cnt (sets (ps.drop (i + 1))))).length : Nat) = ps.length := by
      rw [List.length_append, List.length_replicate, unr_len, sets_len, List.length_drop]; omega
    have eu : unr (sets (ps.drop i)) (K % cnt (sets (ps.drop i))) = selV (runs ps[i]) (K / cnt (sets (ps.drop (i + 1))) % size (runs ps[i])) :: unr (sets (ps.drop (i + 1))) (K % cnt (sets (ps.drop (i + 1)))) := by
      have e3 : (K % cnt (sets (ps.drop i))) / cnt (sets (ps.drop (i + 1))) = K / cnt (sets (ps.drop (i + 1))) % size (runs ps[i]) := by
        rw [e2, Int.add_comm, Int.add_mul_ediv_right _ _ (by omega), Int.ediv_eq_zero_of_lt r0 r1]; omega
      have e4 : (K % cnt (sets (ps.drop i))) % cnt (sets (ps.drop (i + 1))) = K % cnt (sets (ps.drop (i + 1))) := by
        rw [e2, Int.add_comm, Int.add_mul_emod_self_right, Int.emod_eq_of_lt r0 r1]
      rw [← e3, ← e4]
      rw [List.drop_eq_getElem_cons hil]; exact unr_cons _ _ _
    refine evSucc ?_
    rw [show (((i + 1 : Nat) : Int) - 1) = (i : Int) by omega]
    simp only [leadtrailref09_Unrank.l0, if_pos (show (i : Int) ≥ 0 by omega), if_pos (show (0 : Int) ≤ (i : Int) by omega), if_pos (show (i : Int) < ((ps.length : Nat) : Int) by omega), rdL_at ps i hil]
    refine Ev.bind (refSize_at _ (hI.2 _ (List.getElem_mem _)) hp) ?_
    simp only [if_neg (show ¬ size (runs ps[i]) = 0 by omega)]
    simp only [t1, t2]
    refine Ev.bind (refSelect_at _ _ (hI.2 _ (List.getElem_mem _)) hp d0 d1) ?_
    simp only [hlen, if_pos (show (i : Int) < ((ps.length : Nat) : Int) by omega), hw.out, hw2.out, hm, Int.toNat_natCast, set_mid]
    rw [← eu]
    exact ih
theorem refUnrank_is (ps : List (List Sp)) (a k : Int) (hI : In2 ps) : Ev (fun n => leadtrailref09_Unrank.f n ps a k) (unS ps a k, okB ps a k) := by
  have jT : Ev (fun n => leadtrailref09_Unrank.j0 n k true ps a) ([], false) := by
    refine evSucc ?_
    simp only [leadtrailref09_Unrank.j0, if_true]; exact evNow _
  have no : okB ps a k = false → (unS ps a k, okB ps a k) = ([], false) := fun h => by rw [h]; unfold unS; rw [h]; rfl
  simp only [leadtrailref09_Unrank.f]
  by_cases c : k < 0
  · simp only [if_pos c]
    rw [no (decide_eq_false (by omega))]; exact jT
  · simp only [if_neg c]
    refine Ev.bind (show Ev _ (cntS ps a) from refCount_is ps a hI) ?_
    cases h : okB ps a k
    · have := of_decide_eq_false h
      rw [decide_eq_true (show k ≥ cntS ps a by omega)]
      have e := no h
      rw [h] at e
      rw [e]; exact jT
    · obtain ⟨hv, h0, h1⟩ := okB_of h
      have h2 : 0 ≤ k ∧ k < cntS ps a := of_decide_eq_true h
      obtain ⟨⟨l1, l2⟩, ⟨a1, a2⟩, hk, hg, hc⟩ := vShape_good hv
      rw [decide_eq_false (show ¬ k ≥ cntS ps a by omega)]
      refine evSucc ?_
      have := refUnrank_loop ps a k hI hk l2 (by omega) h0 h1 ps.length (Nat.le_refl _)
      rw [List.drop_length, show cnt (sets []) = 1 from cnt_nil, Int.ediv_one, show unr (sets []) (k % 1) = [] from unr_nil _, List.append_nil] at this
      have hw2 : Aside0 (wrap64 ((ps.length : Int) - 1) = (ps.length : Int) - 1) := Aside0.mk (w64 (by omega) (by omega))
      simp only [leadtrailref09_Unrank.j0, Bool.false_eq_true, if_false, if_pos (show (0 : Int) ≤ ((ps.length : Nat) : Int) by omega), Int.toNat_natCast, if_pos (show ps.length ≤ 281474976710656 by omega), Option.bind_some, List.length_replicate, hw2.out]
      unfold unS
      simp only [h, if_true]
      exact this
def begB : List (List Run) → List Int → Bool
  | _, [] => true
  | [], _ :: _ => false
  | s :: t, b :: bs => memB s b && begB t bs
theorem begB_nil (p : List (List Run)) : begB p [] = true := by cases p <;> rfl
theorem begB_cons (s : List Run) (t : List (List Run)) (b : Int) (bs : List Int) : begB (s :: t) (b :: bs) = (memB s b && begB t bs) := rfl
theorem begins_loop (ps : List (List Sp)) (a : Int) (bs : List Int) (hb : ∀ b ∈ bs, 0 ≤ b ∧ b ≤ 255) (hbl : bs.length ≤ ps.length) (hI : In2 ps) (hk : ps.all okPart = true) (hl : ps.length ≤ 8) : ∀ (n i : Nat), i + n = bs.length →
    Ev (fun k => shape_Begins.l0 k bs (bs.length : Int) (i : Int) ps a) (begB (sets (ps.drop i)) (bs.drop i)) ∧ Ev (fun k => leadtrailref09_Begins.l0 k bs (i : Int) ps a) (begB (sets (ps.drop i)) (bs.drop i))
  | 0, i, hi => by
    rw [List.drop_of_length_le (show bs.length ≤ i by omega), begB_nil]
    refine ⟨evSucc ?_, evSucc ?_⟩
    · simp only [shape_Begins.l0, if_neg (show ¬ (i : Int) < (bs.length : Int) by omega)]; exact evNow _
    · simp only [leadtrailref09_Begins.l0, if_neg (show ¬ (i : Int) < (bs.length : Int) by omega)]; exact evNow _
  | n + 1, i, hi => by
    have hbi : i < bs.length := by omega
    have hil : i < ps.length := by omega
    obtain ⟨ih1, ih2⟩ := begins_loop ps a bs hb hbl hI hk hl n (i + 1) (by omega)
    have hp := good_part hk hil
    have hs := okPart_good hp
    have hbb := hb _ (List.getElem_mem hbi)
    have r2 := rd_get bs i hbi
    have hw : Aside0 (wrap64 (bs[i]) = bs[i]) := Aside0.mk (wrap_byte hbb)
    have hw2 : Aside0 (wrap64 ((i : Int) + 1) = ((i + 1 : Nat) : Int)) := Aside0.mk (by rw [w64 (by omega) (by omega)]; simp)
    have hH := spans_Has_is ps[i] bs[i] (wf64 (by omega) (by omega)) (hI.2 _ (List.getElem_mem _))
    rw [show ps[i].map L113 = runs ps[i] from rfl, setL_of hs.1] at hH
    have hH2 := refHas_is ps[i] bs[i] (hI.2 _ (List.getElem_mem _))
    rw [show ps[i].map L113 = runs ps[i] from rfl, setL_of hs.1] at hH2
    have e : begB (sets (ps.drop i)) (bs.drop i) = (memB (runs ps[i]) bs[i] && begB (sets (ps.drop (i + 1))) (bs.drop (i + 1))) := by
      rw [List.drop_eq_getElem_cons hil, List.drop_eq_getElem_cons hbi]; exact begB_cons _ _ _ _
    rw [e]
    refine ⟨evSucc ?_, evSucc ?_⟩
    · simp only [shape_Begins.l0, if_pos (show (i : Int) < ((bs.length : Nat) : Int) by omega), if_pos (show (0 : Int) ≤ (i : Int) by omega), if_pos (show (i : Int) < ((ps.length : Nat) : Int) by omega), r2, rdL_at ps i hil, hw.out]
      refine Ev.bind hH ?_
      cases hm : memB (runs ps[i]) bs[i]
      · simp only [Bool.false_eq_true, if_false, Bool.false_and]; exact evNow _
      · simp only [if_true, Bool.true_and, hw2.out]; exact ih1
    · simp only [leadtrailref09_Begins.l0, if_pos (show (i : Int) < ((bs.length : Nat) : Int) by omega), if_pos (show (0 : Int) ≤ (i : Int) by omega), if_pos (show (i : Int) < ((ps.length : Nat) : Int) by omega), r2, rdL_at ps i hil, hw.out]
      refine Ev.bind hH2 ?_
      cases hm : memB (runs ps[i]) bs[i]
      · simp only [Bool.false_eq_true, if_false, Bool.false_and]; exact evNow _
      · simp only [if_true, Bool.true_and, hw2.out]; exact ih2
def begS (ps : List (List Sp)) (a : Int) (bs : List Int) : Bool := vShape ps a && (decide (bs.length ≤ ps.length) && begB (sets ps) bs)
theorem Begins_is (ps : List (List Sp)) (a : Int) (bs : List Int) (hI : In2 ps) (hb : ∀ b ∈ bs, 0 ≤ b ∧ b ≤ 255) : Ev (fun k => shape_Begins.f k ps a bs) (begS ps a bs) := by
  have jT : Ev (fun k => shape_Begins.j0 k bs true ps a) false := by
    refine evSucc ?_
    simp only [shape_Begins.j0, if_true]; exact evNow _
  simp only [shape_Begins.f]
  refine Ev.bind (shapeValid_is ps a hI) ?_
  unfold begS
  cases hv : vShape ps a
  · simp only [Bool.false_eq_true, if_false, Bool.false_and]; exact jT
  · simp only [if_true, Bool.true_and]
    obtain ⟨⟨l1, l2⟩, ⟨a1, a2⟩, hk, hg, hc⟩ := vShape_good hv
    by_cases c : bs.length ≤ ps.length
    · rw [decide_eq_false (show ¬ ((bs.length : Int) > (ps.length : Int)) by omega), decide_eq_true c, Bool.true_and]
      refine evSucc ?_
      simp only [shape_Begins.j0, Bool.false_eq_true, if_false]
      simpa using (begins_loop ps a bs hb c hI hk l2 bs.length 0 (by omega)).1
    · rw [decide_eq_true (show ((bs.length : Int) > (ps.length : Int)) by omega), decide_eq_false c, Bool.false_and]
      exact jT
theorem refBegins_is (ps : List (List Sp)) (a : Int) (bs : List Int) (hI : In2 ps) (hb : ∀ b ∈ bs, 0 ≤ b ∧ b ≤ 255) : Ev (fun k => leadtrailref09_Begins.f k ps a bs) (begS ps a bs) := by
  have jT : Ev (fun k => leadtrailref09_Begins.j0 k bs true ps a) false := by
    refine evSucc ?_
    simp only [leadtrailref09_Begins.j0, if_true]; exact evNow _
  simp only [leadtrailref09_Begins.f]
  refine Ev.bind (refCount_is ps a hI) ?_
  unfold begS
  cases hv : vShape ps a
  · simp only [Bool.false_eq_true, if_false, if_true, Bool.false_and]; exact jT
  · simp only [if_true, Bool.true_and]
    obtain ⟨⟨l1, l2⟩, ⟨a1, a2⟩, hk, hg, hc⟩ := vShape_good hv
    have hpos := cnt_pos hg
    simp only [if_neg (show ¬ cnt (sets ps) = 0 by omega)]
    by_cases c : bs.length ≤ ps.length
    · rw [decide_eq_false (show ¬ ((bs.length : Int) > (ps.length : Int)) by omega), decide_eq_true c, Bool.true_and]
      refine evSucc ?_
      simp only [leadtrailref09_Begins.j0, Bool.false_eq_true, if_false]
      simpa using (begins_loop ps a bs hb c hI hk l2 bs.length 0 (by omega)).2
    · rw [decide_eq_true (show ((bs.length : Int) > (ps.length : Int)) by omega), decide_eq_false c, Bool.false_and]
      exact jT
theorem same_loop (ps : List (List Sp)) (a : Int) (hI : In2 ps) : ∀ (n i : Nat), i + n = ps.length → Ev (fun k => leadtrailref08_SameShape.l0 k (i : Int) ps a ps a) true
  | 0, i, hi => by
    refine evSucc ?_
    simp only [leadtrailref08_SameShape.l0, if_neg (show ¬ (i : Int) < (ps.length : Int) by omega)]; exact evNow _
  | n + 1, i, hi => by
    have hil : i < ps.length := by omega
    have h2 := hI.1
    have ih := same_loop ps a hI n (i + 1) (by omega)
    have hw2 : Aside0 (wrap64 ((i : Int) + 1) = ((i + 1 : Nat) : Int)) := Aside0.mk (by rw [w64 (by omega) (by omega)]; simp)
    refine evSucc ?_
    simp only [leadtrailref08_SameShape.l0, if_pos (show (i : Int) < ((ps.length : Nat) : Int) by omega), if_pos (show (0 : Int) ≤ (i : Int) by omega), rdL_at ps i hil]
    refine Ev.bind (leadtrailref03_Same_self _ (hI.2 _ (List.getElem_mem _))) ?_
    simp only [if_true, hw2.out]
    exact ih
theorem SameShape_self (ps : List (List Sp)) (a : Int) (hI : In2 ps) : Ev (fun k => leadtrailref08_SameShape.f k ps a ps a) true := by
  simp only [leadtrailref08_SameShape.f, if_true, bne_self_eq_false]
  refine evSucc ?_
  simp only [leadtrailref08_SameShape.j0, Bool.false_eq_true, if_false]
  exact same_loop ps a hI ps.length 0 (by omega)
end Go.Proofs.Ytkcklnmbeinfkaa.PBS
