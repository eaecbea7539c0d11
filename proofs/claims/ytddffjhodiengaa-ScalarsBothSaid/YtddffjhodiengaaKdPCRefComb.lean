/- Words and walks of this claim, of the text PCRefComb. -/
import Derived.Test.YtddffjhodiengaaKdCx0
import Derived.Test.YtddffjhodiengaaKdCx8
import Derived.Test.YtddffjhodiengaaKdCx9
import Derived.Test.YtddffjhodiengaaKdCx10
import Derived.Test.YtddffjhodiengaaKdPCRefNorm
namespace Go.Proofs.Ytddffjhodiengaa.PC
open Go.RowKit Go.Proofs.YtddffjhodiengaaW.PrintWords Go.Proofs.YtddffjhodiengaaW.PrintLast Go.Proofs.YtddffjhodiengaaW.PrintMore Go.Proofs.Ytddffjhodiengaa.C Go.Proofs.LT
set_option linter.unusedVariables false
set_option linter.unusedSimpArgs false
theorem refValid_loop (N : Nat) (hN : N ≤ 8796093022206) : ∀ (t q : List S56) (p : S56), (q ++ p :: t).length ≤ N → p.f1 ≤ 1073741823 → 0 ≤ p.f1 → Ev (fun k => leadtrailref04_Valid.l0 k (q ++ p :: t) ((q.length : Int) + 1)) (validB 1073741823 p.f1 (t.map L56))
  | [], q, p, _, _, _ => by
    refine evSucc ?_
    have hlc := len_cons q p []
    have c1 : ¬ (q.length : Int) + 1 < ((q ++ [p]).length : Nat) := by rw [hlc]; simp
    simp only [leadtrailref04_Valid.l0, if_neg c1]
    rw [show validB 1073741823 p.f1 (([] : List S56).map L56) = true from validB_nil _ _]
    exact evNow _
  | r :: t, q, p, hl, hp, hp0 => by
    have hlc := len_cons q p (r :: t)
    have e1 : q ++ p :: r :: t = (q ++ [p]) ++ r :: t := by simp
    have e2 : ((q.length : Int) + 1) = ((q ++ [p]).length : Nat) := by simp
    have rr : rd_T56 (q ++ p :: r :: t) ((q.length : Int) + 1) = r := by rw [e1, e2]; exact rd56 _ _ _
    have rp : rd_T56 (q ++ p :: r :: t) (q.length : Int) = p := rd56 _ _ _
    have hq : q.length ≤ N := by simp at hl; omega
    have c1 : (q.length : Int) + 1 < ((q ++ p :: r :: t).length : Nat) := by rw [hlc]; simp; omega
    have c2 : (0 : Int) ≤ (q.length : Int) + 1 := by omega
    have c3 : (q.length : Int) + 1 > 0 := by omega
    have c4 : (0 : Int) ≤ (q.length : Int) := by omega
    have c5 : (q.length : Int) < ((q ++ p :: r :: t).length : Nat) := by omega
    have hw1 : Aside0 (wrap64 ((q.length : Int) + 1 - 1) = (q.length : Int)) := Aside0.mk (by rw [w64 (by omega) (by omega)]; omega)
    have hw2 : Aside0 (wrap64 ((q.length : Int) + 1 + 1) = (q.length : Int) + 1 + 1) := Aside0.mk (w64 (by omega) (by omega))
    have hw3 : Aside0 (wrap64 (p.f1 + 1) = p.f1 + 1) := Aside0.mk (w64 (by omega) (by omega))
    refine evSucc ?_
    simp only [leadtrailref04_Valid.l0, if_pos c1, if_pos c2, if_pos c3, rr, hw1.out, hw2.out, hw3.out, if_pos c4, if_pos c5, rp, List.map_cons, validB_cons]
    show Ev _ (if r.f0 < 0 then false else if r.f0 > r.f1 then false else if r.f1 > 1073741823 then false else if r.f0 - 1 ≤ p.f1 then false else validB 1073741823 r.f1 (t.map L56))
    by_cases d1 : r.f0 < 0
    · simp only [if_pos d1]; exact evNow _
    by_cases d2 : r.f0 > r.f1
    · simp only [if_neg d1, if_pos d2]; exact evNow _
    by_cases d3 : r.f1 > 1073741823
    · simp only [if_neg d1, if_neg d2, if_pos d3]; exact evNow _
    by_cases d4 : r.f0 ≤ p.f1 + 1
    · simp only [if_neg d1, if_neg d2, if_neg d3, if_pos d4, if_pos (show r.f0 - 1 ≤ p.f1 by omega)]; exact evNow _
    · have ih := refValid_loop N hN t (q ++ [p]) r (by rw [← e1]; exact hl) (by omega) (by omega)
      rw [← e1, ← e2] at ih
      simp only [if_neg d1, if_neg d2, if_neg d3, if_neg d4, if_neg (show ¬ r.f0 - 1 ≤ p.f1 by omega)]
      exact ih
theorem refValid_is (l : List S56) (hl : l.length * 16 ≤ 140737488351232) : Ev (fun k => leadtrailref04_Valid.f k l) (validB 1073741823 (-2) (l.map L56)) := by
  simp only [leadtrailref04_Valid.f]
  cases l with
  | nil =>
    refine evSucc ?_
    simp only [leadtrailref04_Valid.l0, List.length_nil, if_neg (show ¬ (0 : Int) < ((0 : Nat) : Int) by omega), List.map_nil, validB_nil]
    exact evNow _
  | cons r t =>
    have c1 : (0 : Int) < (((r :: t).length : Nat) : Int) := by rw [List.length_cons]; omega
    have r1 : rd_T56 (r :: t) 0 = r := rfl
    have hw : Aside0 (wrap64 ((0 : Int) + 1) = 1) := Aside0.mk (by rw [w64 (by omega) (by omega)]; rfl)
    refine evSucc ?_
    simp only [leadtrailref04_Valid.l0, if_pos c1, if_pos (show (0 : Int) ≤ 0 by omega), r1, if_neg (show ¬ (0 : Int) > 0 by omega), hw.out, List.map_cons, validB_cons]
    show Ev _ (if r.f0 < 0 then false else if r.f0 > r.f1 then false else if r.f1 > 1073741823 then false else if r.f0 - 1 ≤ -2 then false else validB 1073741823 r.f1 (t.map L56))
    by_cases d1 : r.f0 < 0
    · simp only [if_pos d1]; exact evNow _
    by_cases d2 : r.f0 > r.f1
    · simp only [if_neg d1, if_pos d2]; exact evNow _
    by_cases d3 : r.f1 > 1073741823
    · simp only [if_neg d1, if_neg d2, if_pos d3]; exact evNow _
    simp only [if_neg d1, if_neg d2, if_neg d3, if_neg (show ¬ r.f0 - 1 ≤ -2 by omega)]
    exact refValid_loop (r :: t).length (by omega) t [] r (by simp) (by omega) (by omega)
theorem refSet_is (l : List S56) (hl : l.length * 16 ≤ 140737488351232) : ∃ t, Ev (fun k => leadtrailref04_set.f k l) t ∧ t.map L56 = setL 1073741823 (l.map L56) := by
  have h := refValid_is l hl
  by_cases d : validB 1073741823 (-2) (l.map L56) = true
  · refine ⟨l, Ev.bind h ?_, by unfold setL; rw [if_pos d]⟩
    simp only [if_pos d]; exact evNow _
  · refine ⟨[], Ev.bind h ?_, by unfold setL; rw [if_neg d]; rfl⟩
    simp only [if_neg d]; exact evNow _
theorem refSet_facts {l : List S56} {s : List S56} (h : s.map L56 = setL 1073741823 (l.map L56)) : ValidFrom 1073741823 (-2) (s.map L56) ∧ s.length ≤ 1073741824 := by
  have hv : ValidFrom 1073741823 (-2) (s.map L56) := by rw [h]; exact setL_valid _ _
  have := valid_len' hv (by omega) (by omega)
  exact ⟨hv, by simpa using this⟩
def endsL (l : List S56) : List Int := l.flatMap fun r => [r.f0, r.f1 + 1]
theorem endsL_cons (r : S56) (t : List S56) : endsL (r :: t) = [r.f0, r.f1 + 1] ++ endsL t := by simp [endsL]
theorem ends_loop (N : Nat) (hN : N ≤ 1073741824) : ∀ (t pre : List S56) (out : List Int), (pre ++ t).length ≤ N → out.length = 2 * pre.length → (∀ r ∈ t, 0 ≤ r.f1 ∧ r.f1 ≤ 1073741823) → Ev (fun k => leadtrailref04_ends.l0 k (pre ++ t) out (pre.length : Int)) (out ++ endsL t)
  | [], pre, out, _, _, _ => by
    refine evSucc ?_
    simp only [leadtrailref04_ends.l0]
    rw [List.append_nil]
    simp only [if_neg (show ¬ ((pre.length : Nat) : Int) < ((pre.length : Nat) : Int) by omega)]
    simpa [endsL] using evNow out
  | r :: t, pre, out, hl, ho, hb => by
    have hlc := len_cons pre r t
    have hr := hb r List.mem_cons_self
    have hpl : pre.length ≤ N := by simp at hl; omega
    have c1 : (pre.length : Int) < ((pre ++ r :: t).length : Nat) := by rw [hlc]; omega
    have c2 : (0 : Int) ≤ pre.length := by omega
    have hw : Aside0 (wrap64 ((pre.length : Int) + 1) = (pre.length : Int) + 1) := Aside0.mk (w64 (by omega) (by omega))
    have hw2 : Aside0 (wrap64 (r.f1 + 1) = r.f1 + 1) := Aside0.mk (w64 (by omega) (by omega))
    have ih := ends_loop N hN t (pre ++ [r]) (out ++ [r.f0, r.f1 + 1]) (by rw [app_snoc]; exact hl) (by simp [ho]; omega) (fun z hz => hb z (List.mem_cons_of_mem _ hz))
    rw [app_snoc, snoc_len] at ih
    have e : out.length + [r.f0, r.f1 + 1].length < 17592186044416 := by simp; omega
    refine evSucc ?_
    simp only [leadtrailref04_ends.l0, if_pos c1, if_pos c2, rd56, hw.out, hw2.out, Option.bind_some, if_pos e]
    rw [endsL_cons, ← List.append_assoc]
    exact ih
theorem ends_is (l : List S56) (hn : l.length ≤ 1073741824) (hv : ValidFrom 1073741823 (-2) (l.map L56)) : Ev (fun k => leadtrailref04_ends.f k l) (endsL l) := by
  have h := ends_loop l.length hn l [] [] (by simp) rfl (fun r hr => by
    have := hv.each (L56 r) (List.mem_map.2 ⟨r, hr, rfl⟩)
    have e : (L56 r).1 = r.f0 ∧ (L56 r).2 = r.f1 := ⟨rfl, rfl⟩
    rw [e.1, e.2] at this; omega)
  simpa [leadtrailref04_ends.f] using h
theorem endsL_mem {l : List S56} {r : S56} (h : r ∈ l) : r.f0 ∈ endsL l ∧ r.f1 + 1 ∈ endsL l := by
  unfold endsL; simp only [List.mem_flatMap]
  exact ⟨⟨r, h, by simp⟩, ⟨r, h, by simp⟩⟩
theorem endsL_range {l : List S56} (hv : ValidFrom 1073741823 (-2) (l.map L56)) : ∀ y ∈ endsL l, 0 ≤ y ∧ y ≤ 1073741824 := fun y hy => by
  unfold endsL at hy
  obtain ⟨r, hr, hy⟩ := List.mem_flatMap.1 hy
  have := hv.each (L56 r) (List.mem_map.2 ⟨r, hr, rfl⟩)
  have e : (L56 r).1 = r.f0 ∧ (L56 r).2 = r.f1 := ⟨rfl, rfl⟩
  rw [e.1, e.2] at this
  simp at hy; omega
theorem endsL_sorted : ∀ {l : List S56} {last : Int}, ValidFrom 1073741823 last (l.map L56) → (endsL l).Pairwise (· ≤ ·) ∧ ∀ y ∈ endsL l, last + 1 < y
  | [], _, _ => by simp [endsL]
  | r :: t, last, hv => by
    have e : (L56 r).1 = r.f0 ∧ (L56 r).2 = r.f1 := ⟨rfl, rfl⟩
    obtain ⟨v0, v1, v2, v3, v4⟩ := hv
    rw [e.1, e.2] at *
    obtain ⟨i1, i2⟩ := endsL_sorted v4
    rw [e.2] at i2
    rw [endsL_cons]
    refine ⟨?_, fun y hy => ?_⟩
    · refine List.pairwise_cons.2 ⟨fun y hy => ?_, List.pairwise_cons.2 ⟨fun y hy => ?_, i1⟩⟩
      · rcases List.mem_cons.1 hy with rfl | hy
        · omega
        · have := i2 y hy; omega
      · have := i2 y hy; omega
    · rcases List.mem_cons.1 hy with rfl | hy
      · omega
      · rcases List.mem_cons.1 hy with rfl | hy
        · omega
        · have := i2 y hy; omega
theorem endsL_len (l : List S56) : (endsL l).length = 2 * l.length := by
  induction l with
  | nil => rfl
  | cons r t ih => rw [endsL_cons, List.length_append, ih]; simp; omega
theorem valid_snoc {top : Int} : ∀ {o : List Run} {last : Int} {r : Run}, ValidFrom top last o → 0 ≤ r.1 → r.1 ≤ r.2 → r.2 ≤ top → last < r.1 - 1 → (∀ x, Mem o x → x < r.1 - 1) → ValidFrom top last (o ++ [r])
  | [], _, r, _, h0, h1, h2, h3, _ => ⟨h0, h1, h2, h3, trivial⟩
  | q :: o, last, r, hv, h0, h1, h2, h3, hm => by
    obtain ⟨v0, v1, v2, v3, v4⟩ := hv
    exact ⟨v0, v1, v2, v3, valid_snoc v4 h0 h1 h2 (hm q.2 (mem_cons.2 (.inl ⟨v1, Int.le_refl _⟩))) fun x hx => hm x (mem_cons.2 (.inr hx))⟩
theorem valid_stretch {top : Int} : ∀ {o : List Run} {last : Int} {q : Run} {h : Int}, ValidFrom top last (o ++ [q]) → q.2 ≤ h → h ≤ top → ValidFrom top last (o ++ [(q.1, h)])
  | [], _, q, h, hv, h1, h2 => ⟨hv.1, Int.le_trans hv.2.1 h1, h2, hv.2.2.2.1, trivial⟩
  | p :: o, last, q, h, hv, h1, h2 => ⟨hv.1, hv.2.1, hv.2.2.1, hv.2.2.2.1, valid_stretch hv.2.2.2.2 h1 h2⟩
theorem mem_head {top : Int} {pa ta : List S56} {last y : Int} (hv : ValidFrom top last ((pa ++ ta).map L56)) (h1 : ∀ r ∈ pa, r.f1 < y) (h2 : ∀ r t, ta = r :: t → y ≤ r.f1) : Mem ((pa ++ ta).map L56) y ↔ ∃ r t, ta = r :: t ∧ r.f0 ≤ y := by
  have e : ∀ r : S56, (L56 r).1 = r.f0 ∧ (L56 r).2 = r.f1 := fun _ => ⟨rfl, rfl⟩
  rw [List.map_append, mem_append]
  constructor
  · rintro (⟨q, hq, h⟩ | h)
    · obtain ⟨r, hr, rfl⟩ := List.mem_map.1 hq
      have := h1 r hr; rw [(e r).2] at h; omega
    · cases ta with
      | nil => exact (Mem.nil h).elim
      | cons r t =>
        rw [List.map_cons] at h
        rcases mem_cons.1 h with h | h
        · exact ⟨r, t, rfl, by rw [(e r).1] at h; exact h.1⟩
        · have h3 := h2 r t rfl
          have hvt : ValidFrom top r.f1 (t.map L56) := by
            clear h1 h2 h h3
            induction pa generalizing last with
            | nil => exact hv.2.2.2.2
            | cons q pa ih => exact ih hv.2.2.2.2
          have := hvt.gt h; omega
  · rintro ⟨r, t, rfl, h⟩
    exact .inr (by rw [List.map_cons]; exact mem_cons.2 (.inl ⟨by rw [(e r).1]; exact h, by rw [(e r).2]; exact h2 r t rfl⟩))
def want (both first second : Bool) (A B : Bool) : Bool := if A then (if B then both else first) else (if B then second else false)
section
variable (a b : List S56) (both first second : Bool) (cuts : List Int)
theorem adv1 (N : Nat) (hN : N ≤ 1073741824) (out : List S56) (j kk lo hi : Int) : ∀ (ta pa : List S56), a = pa ++ ta → (pa ++ ta).length ≤ N → (∀ r ∈ pa, r.f1 < lo) →
    ∃ pa' ta', a = pa' ++ ta' ∧ (∀ r ∈ pa', r.f1 < lo) ∧ (∀ r t, ta' = r :: t → lo ≤ r.f1) ∧ ∀ res, Ev (fun k => leadtrailref04_combined.j2 k a b both first second out (pa'.length : Int) j kk lo hi cuts) res → Ev (fun k => leadtrailref04_combined.l1 k a b both first second out (pa.length : Int) j kk lo hi cuts) res
  | [], pa, ha, hl, hp => by
    refine ⟨pa, [], ha, hp, fun r t h => (by cases h), fun res hr => evSucc ?_⟩
    subst ha
    simp only [leadtrailref04_combined.l1, List.append_nil] at hr ⊢
    simp only [if_neg (show ¬ ((pa.length : Nat) : Int) < ((pa.length : Nat) : Int) by omega)]
    exact hr
  | r :: t, pa, ha, hl, hp => by
    have hlc := len_cons pa r t
    have hpl : pa.length ≤ N := by simp at hl; omega
    have c1 : (pa.length : Int) < (a.length : Nat) := by rw [ha, hlc]; omega
    have c2 : (0 : Int) ≤ pa.length := by omega
    have rr : rd_T56 a (pa.length : Int) = r := by rw [ha]; exact rd56 _ _ _
    have hw : Aside0 (wrap64 ((pa.length : Int) + 1) = (pa.length : Int) + 1) := Aside0.mk (w64 (by omega) (by omega))
    by_cases d : r.f1 < lo
    · obtain ⟨pa', ta', g1, g2, g3, g4⟩ := adv1 N hN out j kk lo hi t (pa ++ [r]) (by rw [ha, app_snoc]) (by rw [app_snoc]; exact hl) (fun z hz => by
        rcases List.mem_append.1 hz with hz | hz
        · exact hp z hz
        · obtain rfl := List.mem_singleton.1 hz; exact d)
      refine ⟨pa', ta', g1, g2, g3, fun res hr => evSucc ?_⟩
      have := g4 res hr
      rw [snoc_len] at this
      simp only [leadtrailref04_combined.l1, if_pos c1, if_pos c2, rr, if_pos d, hw.out]
      exact this
    · refine ⟨pa, r :: t, ha, hp, fun q s h => by injection h with h1 h2; subst h1; omega, fun res hr => evSucc ?_⟩
      simp only [leadtrailref04_combined.l1, if_pos c1, if_pos c2, rr, if_neg d]
      exact hr
theorem adv2 (N : Nat) (hN : N ≤ 1073741824) (out : List S56) (i kk lo hi : Int) : ∀ (tb pb : List S56), b = pb ++ tb → (pb ++ tb).length ≤ N → (∀ r ∈ pb, r.f1 < lo) →
    ∃ pb' tb', b = pb' ++ tb' ∧ (∀ r ∈ pb', r.f1 < lo) ∧ (∀ r t, tb' = r :: t → lo ≤ r.f1) ∧ ∀ res, Ev (fun k => leadtrailref04_combined.j4 k a b both first second out i (pb'.length : Int) kk lo hi cuts) res → Ev (fun k => leadtrailref04_combined.l2 k a b both first second out i (pb.length : Int) kk lo hi cuts) res
  | [], pb, hb, hl, hp => by
    refine ⟨pb, [], hb, hp, fun r t h => (by cases h), fun res hr => evSucc ?_⟩
    subst hb
    simp only [leadtrailref04_combined.l2, List.append_nil] at hr ⊢
    simp only [if_neg (show ¬ ((pb.length : Nat) : Int) < ((pb.length : Nat) : Int) by omega)]
    exact hr
  | r :: t, pb, hb, hl, hp => by
    have hlc := len_cons pb r t
    have hpl : pb.length ≤ N := by simp at hl; omega
    have c1 : (pb.length : Int) < (b.length : Nat) := by rw [hb, hlc]; omega
    have c2 : (0 : Int) ≤ pb.length := by omega
    have rr : rd_T56 b (pb.length : Int) = r := by rw [hb]; exact rd56 _ _ _
    have hw : Aside0 (wrap64 ((pb.length : Int) + 1) = (pb.length : Int) + 1) := Aside0.mk (w64 (by omega) (by omega))
    by_cases d : r.f1 < lo
    · obtain ⟨pb', tb', g1, g2, g3, g4⟩ := adv2 N hN out i kk lo hi t (pb ++ [r]) (by rw [hb, app_snoc]) (by rw [app_snoc]; exact hl) (fun z hz => by
        rcases List.mem_append.1 hz with hz | hz
        · exact hp z hz
        · obtain rfl := List.mem_singleton.1 hz; exact d)
      refine ⟨pb', tb', g1, g2, g3, fun res hr => evSucc ?_⟩
      have := g4 res hr
      rw [snoc_len] at this
      simp only [leadtrailref04_combined.l2, if_pos c1, if_pos c2, rr, if_pos d, hw.out]
      exact this
    · refine ⟨pb, r :: t, hb, hp, fun q s h => by injection h with h1 h2; subst h1; omega, fun res hr => evSucc ?_⟩
      simp only [leadtrailref04_combined.l2, if_pos c1, if_pos c2, rr, if_neg d]
      exact hr
theorem inside (out : List S56) (kk lo hi : Int) (pa ta pb tb : List S56) (ha : a = pa ++ ta) (hb : b = pb ++ tb) (va : ValidFrom 1073741823 (-2) (a.map L56)) (vb : ValidFrom 1073741823 (-2) (b.map L56)) (h1 : ∀ r ∈ pa, r.f1 < lo) (h2 : ∀ r t, ta = r :: t → lo ≤ r.f1) (h3 : ∀ r ∈ pb, r.f1 < lo) (h4 : ∀ r t, tb = r :: t → lo ≤ r.f1) (res : List S56)
    (hr : Ev (fun k => leadtrailref04_combined.j6 k a b both first second out (pa.length : Int) (pb.length : Int) kk lo hi cuts (!want both first second (memB (a.map L56) lo) (memB (b.map L56) lo))) res) :
    Ev (fun k => leadtrailref04_combined.j4 k a b both first second out (pa.length : Int) (pb.length : Int) kk lo hi cuts) res := by
  have j5 : ∀ A B : Bool, Ev (fun k => leadtrailref04_combined.j6 k a b both first second out (pa.length : Int) (pb.length : Int) kk lo hi cuts (!want both first second A B)) res → Ev (fun k => leadtrailref04_combined.j5 k a b both first second out (pa.length : Int) (pb.length : Int) kk lo hi A B cuts) res := fun A B h => by
    refine evSucc ?_
    unfold want at h
    cases A <;> cases B <;> cases both <;> cases first <;> cases second <;> simp only [leadtrailref04_combined.j5, Bool.false_eq_true, if_false, if_true] <;> simpa using h
  have ma := mem_head (y := lo) (by rw [← ha]; exact va) h1 h2
  have mb := mem_head (y := lo) (by rw [← hb]; exact vb) h3 h4
  rw [← ha] at ma
  rw [← hb] at mb
  have ea : (a.length : Int) = pa.length + ta.length := by rw [ha]; simp
  have eb : (b.length : Int) = pb.length + tb.length := by rw [hb]; simp
  have c2 : (0 : Int) ≤ pa.length := by omega
  have d2 : (0 : Int) ≤ pb.length := by omega
  refine evSucc ?_
  have hb5 : ∀ A : Bool, A = memB (a.map L56) lo → Ev (fun k => if (pb.length : Int) < (b.length : Nat) then (if (0 : Int) ≤ (pb.length : Int) then leadtrailref04_combined.j5 k a b both first second out (pa.length : Int) (pb.length : Int) kk lo hi A (decide ((rd_T56 b (pb.length : Int)).f0 ≤ lo)) cuts else none) else leadtrailref04_combined.j5 k a b both first second out (pa.length : Int) (pb.length : Int) kk lo hi A false cuts) res := fun A hA => by
    cases tb with
    | nil =>
      have n1 : ¬ (pb.length : Int) < (b.length : Nat) := by simp at eb; omega
      simp only [if_neg n1]
      have e : memB (b.map L56) lo = false := by
        cases hm : memB (b.map L56) lo
        · rfl
        · obtain ⟨r, t, h, _⟩ := mb.1 (memB_iff.1 hm); cases h
      rw [e, ← hA] at hr
      exact j5 A false hr
    | cons r t =>
      have n1 : (pb.length : Int) < (b.length : Nat) := by simp at eb; omega
      have rr : rd_T56 b (pb.length : Int) = r := by rw [hb]; exact rd56 _ _ _
      simp only [if_pos n1, if_pos d2, rr]
      have e : memB (b.map L56) lo = decide (r.f0 ≤ lo) := by
        rw [Bool.eq_iff_iff, memB_iff, decide_eq_true_iff, mb]
        exact ⟨fun ⟨q, s, h, h'⟩ => by injection h with h1 _; rw [h1]; exact h', fun h => ⟨r, t, rfl, h⟩⟩
      rw [e, ← hA] at hr
      exact j5 A _ hr
  cases ta with
  | nil =>
    have n1 : ¬ (pa.length : Int) < (a.length : Nat) := by simp at ea; omega
    simp only [leadtrailref04_combined.j4, if_neg n1]
    refine hb5 false ?_
    cases hm : memB (a.map L56) lo
    · rfl
    · obtain ⟨r, t, h, _⟩ := ma.1 (memB_iff.1 hm); cases h
  | cons r t =>
    have n1 : (pa.length : Int) < (a.length : Nat) := by simp at ea; omega
    have rr : rd_T56 a (pa.length : Int) = r := by rw [ha]; exact rd56 _ _ _
    simp only [leadtrailref04_combined.j4, if_pos n1, if_pos c2, rr]
    refine hb5 (decide (r.f0 ≤ lo)) ?_
    rw [Bool.eq_iff_iff, memB_iff, decide_eq_true_iff, ma]
    exact ⟨fun h => ⟨r, t, rfl, h⟩, fun ⟨q, s, h, h'⟩ => by injection h with h1 _; rw [h1]; exact h'⟩
end
theorem same_between {l : List S56} {cuts : List Int} {c0 c1 x : Int} (he : ∀ y ∈ endsL l, y ∈ cuts) (hg : ∀ y ∈ cuts, y ≤ c0 ∨ c1 ≤ y) (h0 : c0 ≤ x) (h1 : x < c1) : Mem (l.map L56) x ↔ Mem (l.map L56) c0 := by
  have e : ∀ r : S56, (L56 r).1 = r.f0 ∧ (L56 r).2 = r.f1 := fun _ => ⟨rfl, rfl⟩
  constructor
  · rintro ⟨q, hq, h2, h3⟩
    obtain ⟨r, hr, rfl⟩ := List.mem_map.1 hq
    rw [(e r).1] at h2; rw [(e r).2] at h3
    have g1 := hg _ (he _ (endsL_mem hr).1)
    refine ⟨_, hq, ?_, ?_⟩
    · rw [(e r).1]; omega
    · rw [(e r).2]; omega
  · rintro ⟨q, hq, h2, h3⟩
    obtain ⟨r, hr, rfl⟩ := List.mem_map.1 hq
    rw [(e r).1] at h2; rw [(e r).2] at h3
    have g2 := hg _ (he _ (endsL_mem hr).2)
    refine ⟨_, hq, ?_, ?_⟩
    · rw [(e r).1]; omega
    · rw [(e r).2]; omega
theorem comb_loop (a b : List S56) (both first second : Bool) (cuts : List Int) (N : Nat) (hN : N ≤ 1073741824) (la : a.length ≤ N) (lb : b.length ≤ N) (va : ValidFrom 1073741823 (-2) (a.map L56)) (vb : ValidFrom 1073741823 (-2) (b.map L56)) (ea : ∀ y ∈ endsL a, y ∈ cuts) (eb : ∀ y ∈ endsL b, y ∈ cuts) (hs : cuts.Pairwise (· ≤ ·)) (hr : ∀ y ∈ cuts, 0 ≤ y ∧ y ≤ 1073741824) (hcl : cuts.length ≤ 4294967296) :
    ∀ (C P : List Int) (out : List S56) (pa ta pb tb : List S56), cuts = P ++ C → a = pa ++ ta → b = pb ++ tb → (∀ c R, C = c :: R → (∀ r ∈ pa, r.f1 < c) ∧ (∀ r ∈ pb, r.f1 < c)) → out.length ≤ P.length → ValidFrom 1073741823 (-2) (out.map L56) →
      (∀ x, Mem (out.map L56) x ↔ want both first second (memB (a.map L56) x) (memB (b.map L56) x) = true ∧ ∀ c R, C = c :: R → x < c) →
      ∃ r, Ev (fun k => leadtrailref04_combined.l0 k a b both first second out (pa.length : Int) (pb.length : Int) (P.length : Int) cuts) r ∧ ValidFrom 1073741823 (-2) (r.map L56) ∧ ∀ x, Mem (r.map L56) x ↔ want both first second (memB (a.map L56) x) (memB (b.map L56) x) = true
  | [], P, out, pa, ta, pb, tb, hc, ha, hb, _, hol, hv, hm => by
    have hP : P.length ≤ 4294967296 := by rw [hc] at hcl; simp at hcl; exact hcl
    have hw : Aside0 (wrap64 ((P.length : Int) + 1) = (P.length : Int) + 1) := Aside0.mk (w64 (by omega) (by omega))
    have n1 : ¬ (P.length : Int) + 1 < (cuts.length : Nat) := by rw [hc]; simp; omega
    refine ⟨out, evSucc ?_, hv, fun x => (hm x).trans ⟨fun h => h.1, fun h => ⟨h, fun c R h => (by cases h)⟩⟩⟩
    simp only [leadtrailref04_combined.l0, hw.out, if_neg n1]
    exact evNow _
  | [c], P, out, pa, ta, pb, tb, hc, ha, hb, _, hol, hv, hm => by
    have hP : P.length ≤ 4294967296 := by rw [hc] at hcl; simp at hcl; omega
    have hw : Aside0 (wrap64 ((P.length : Int) + 1) = (P.length : Int) + 1) := Aside0.mk (w64 (by omega) (by omega))
    have n1 : ¬ (P.length : Int) + 1 < (cuts.length : Nat) := by rw [hc]; simp
    have last : ∀ y ∈ cuts, y ≤ c := fun y hy => by
      rw [hc] at hy hs
      rcases List.mem_append.1 hy with hy | hy
      · exact (List.pairwise_append.1 hs).2.2 y hy c (by simp)
      · obtain rfl := List.mem_singleton.1 hy; exact Int.le_refl _
    have e : ∀ r : S56, (L56 r).1 = r.f0 ∧ (L56 r).2 = r.f1 := fun _ => ⟨rfl, rfl⟩
    have none_ : ∀ {l : List S56} {x : Int}, (∀ y ∈ endsL l, y ∈ cuts) → Mem (l.map L56) x → x < c := fun {l x} he ⟨q, hq, h2, h3⟩ => by
      obtain ⟨r, hr, rfl⟩ := List.mem_map.1 hq
      have := last _ (he _ (endsL_mem hr).2)
      rw [(e r).2] at h3; omega
    refine ⟨out, evSucc ?_, hv, fun x => (hm x).trans ⟨fun h => h.1, fun h => ⟨h, fun c' R h' => ?_⟩⟩⟩
    · simp only [leadtrailref04_combined.l0, hw.out, if_neg n1]
      exact evNow _
    · injection h' with h1 _
      subst h1
      cases hA : memB (a.map L56) x with
      | true => exact none_ ea (memB_iff.1 hA)
      | false => cases hB : memB (b.map L56) x with
        | true => exact none_ eb (memB_iff.1 hB)
        | false => rw [hA, hB] at h; simp [want] at h
  | c0 :: c1 :: R, P, out, pa, ta, pb, tb, hc, ha, hb, hp, hol, hv, hm => by
    have hP : P.length + 2 ≤ 4294967296 := by rw [hc] at hcl; simp at hcl; omega
    have hw : Aside0 (wrap64 ((P.length : Int) + 1) = (P.length : Int) + 1) := Aside0.mk (w64 (by omega) (by omega))
    have n1 : (P.length : Int) + 1 < (cuts.length : Nat) := by rw [hc]; simp; omega
    have n2 : (0 : Int) ≤ (P.length : Int) := by omega
    have n3 : (P.length : Int) < (cuts.length : Nat) := by omega
    have n4 : (0 : Int) ≤ (P.length : Int) + 1 := by omega
    have r0 : rd cuts (P.length : Int) = c0 := by rw [hc]; exact rdI _ _ _
    have hc' : cuts = (P ++ [c0]) ++ c1 :: R := by rw [hc]; simp
    have r1 : rd cuts ((P.length : Int) + 1) = c1 := by rw [hc', ← snoc_len P c0]; exact rdI _ _ _
    have b0 := hr c0 (by rw [hc]; simp)
    have b1 := hr c1 (by rw [hc]; simp)
    have hw2 : Aside0 (wrap64 (c1 - 1) = c1 - 1) := Aside0.mk (w64 (by omega) (by omega))
    have sp := hs
    rw [hc] at sp
    have sp2 := (List.pairwise_append.1 sp).2.1
    have s01 : c0 ≤ c1 := (List.pairwise_cons.1 sp2).1 c1 (by simp)
    have sR : ∀ y ∈ c1 :: R, c1 ≤ y := fun y hy => by
      rcases List.mem_cons.1 hy with rfl | hy
      · exact Int.le_refl _
      · exact (List.pairwise_cons.1 (List.pairwise_cons.1 sp2).2).1 y hy
    have gap : ∀ y ∈ cuts, y ≤ c0 ∨ c1 ≤ y := fun y hy => by
      rw [hc] at hy
      rcases List.mem_append.1 hy with hy | hy
      · exact .inl ((List.pairwise_append.1 sp).2.2 y hy c0 (by simp))
      · rcases List.mem_cons.1 hy with rfl | hy
        · exact .inl (Int.le_refl _)
        · exact .inr (sR y hy)
    have hp0 := hp c0 (c1 :: R) rfl
    have next : ∀ (out' : List S56) (pa' ta' pb' tb' : List S56), a = pa' ++ ta' → b = pb' ++ tb' → (∀ r ∈ pa', r.f1 < c0) → (∀ r ∈ pb', r.f1 < c0) → out'.length ≤ P.length + 1 → ValidFrom 1073741823 (-2) (out'.map L56) → (∀ x, Mem (out'.map L56) x ↔ want both first second (memB (a.map L56) x) (memB (b.map L56) x) = true ∧ x < c1) →
        ∃ r, Ev (fun k => leadtrailref04_combined.l0 k a b both first second out' (pa'.length : Int) (pb'.length : Int) ((P.length : Int) + 1) cuts) r ∧ ValidFrom 1073741823 (-2) (r.map L56) ∧ ∀ x, Mem (r.map L56) x ↔ want both first second (memB (a.map L56) x) (memB (b.map L56) x) = true := fun out' pa' ta' pb' tb' ha' hb' hpa hpb hol' hv' hm' => by
      have ih := comb_loop a b both first second cuts N hN la lb va vb ea eb hs hr hcl (c1 :: R) (P ++ [c0]) out' pa' ta' pb' tb' hc' ha' hb' (fun c S h => by
        injection h with h1 _
        subst h1
        exact ⟨fun r hr => Int.lt_of_lt_of_le (hpa r hr) s01, fun r hr => Int.lt_of_lt_of_le (hpb r hr) s01⟩) (by simpa using hol') hv' (fun x => (hm' x).trans ⟨fun h => ⟨h.1, fun c S hh => by injection hh with h1 _; rw [← h1]; exact h.2⟩, fun h => ⟨h.1, h.2 c1 R rfl⟩⟩)
      rw [snoc_len] at ih
      exact ih
    by_cases d : c0 > c1 - 1
    · obtain rfl : c0 = c1 := by omega
      obtain ⟨r, g1, g2, g3⟩ := next out pa ta pb tb ha hb hp0.1 hp0.2 (by omega) hv (fun x => (hm x).trans ⟨fun h => ⟨h.1, h.2 c0 _ rfl⟩, fun h => ⟨h.1, fun c S hh => by injection hh with h1 _; rw [← h1]; exact h.2⟩⟩)
      refine ⟨r, evSucc ?_, g2, g3⟩
      simp only [leadtrailref04_combined.l0, hw.out, if_pos n1, if_pos n2, if_pos n3, if_pos n4, r0, r1, hw2.out, if_pos d]
      exact g1
    · obtain ⟨pa', ta', a1, a2, a3, a4⟩ := adv1 a b both first second cuts N hN out (pb.length : Int) (P.length : Int) c0 (c1 - 1) ta pa ha (by rw [← ha]; exact la) hp0.1
      obtain ⟨pb', tb', b1', b2, b3, b4⟩ := adv2 a b both first second cuts N hN out (pa'.length : Int) (P.length : Int) c0 (c1 - 1) tb pb hb (by rw [← hb]; exact lb) hp0.2
      have go : ∀ res, Ev (fun k => leadtrailref04_combined.j6 k a b both first second out (pa'.length : Int) (pb'.length : Int) (P.length : Int) c0 (c1 - 1) cuts (!want both first second (memB (a.map L56) c0) (memB (b.map L56) c0))) res → Ev (fun k => leadtrailref04_combined.l0 k a b both first second out (pa.length : Int) (pb.length : Int) (P.length : Int) cuts) res := fun res hres => by
        refine evSucc ?_
        simp only [leadtrailref04_combined.l0, hw.out, if_pos n1, if_pos n2, if_pos n3, if_pos n4, r0, r1, hw2.out, if_neg d]
        refine a4 res (evSucc ?_)
        simp only [leadtrailref04_combined.j2]
        exact b4 res (inside a b both first second cuts out (P.length : Int) c0 (c1 - 1) pa' ta' pb' tb' a1 b1' va vb a2 a3 b2 b3 res hres)
      have const : ∀ x, c0 ≤ x → x < c1 → want both first second (memB (a.map L56) x) (memB (b.map L56) x) = want both first second (memB (a.map L56) c0) (memB (b.map L56) c0) := fun x h0 h1 => by
        rw [memB_eq (same_between ea gap h0 h1), memB_eq (same_between eb gap h0 h1)]
      have below : ∀ x, Mem (out.map L56) x → x < c0 := fun x hx => ((hm x).1 hx).2 c0 _ rfl
      by_cases hwant : want both first second (memB (a.map L56) c0) (memB (b.map L56) c0) = true
      ·
        have grow : ∀ out' : List S56, (∀ x, Mem (out'.map L56) x ↔ Mem (out.map L56) x ∨ (c0 ≤ x ∧ x ≤ c1 - 1)) → ∀ x, Mem (out'.map L56) x ↔ want both first second (memB (a.map L56) x) (memB (b.map L56) x) = true ∧ x < c1 := fun out' h x => by
          rw [h x, hm x]
          constructor
          · rintro (⟨h1, h2⟩ | ⟨h1, h2⟩)
            · have := h2 c0 _ rfl; exact ⟨h1, by omega⟩
            · exact ⟨by rw [const x h1 (by omega)]; exact hwant, by omega⟩
          · rintro ⟨h1, h2⟩
            by_cases hx : x < c0
            · exact .inl ⟨h1, fun c S hh => by injection hh with h3 _; rw [← h3]; exact hx⟩
            · exact .inr ⟨by omega, by omega⟩
        have e : ∀ r : S56, (L56 r).1 = r.f0 ∧ (L56 r).2 = r.f1 := fun _ => ⟨rfl, rfl⟩
        have put : (∃ o q, out = o ++ [q] ∧ q.f1 = c0 - 1) → ∃ r, Ev (fun k => leadtrailref04_combined.l0 k a b both first second out (pa.length : Int) (pb.length : Int) (P.length : Int) cuts) r ∧ ValidFrom 1073741823 (-2) (r.map L56) ∧ ∀ x, Mem (r.map L56) x ↔ want both first second (memB (a.map L56) x) (memB (b.map L56) x) = true := fun ⟨o, q, ho, hq⟩ => by
          subst ho
          have hv2 : ValidFrom 1073741823 (-2) ((o ++ [(⟨q.f0, c1 - 1⟩ : S56)]).map L56) := by
            have h1 : ValidFrom 1073741823 (-2) (o.map L56 ++ [L56 q]) := by simpa using hv
            have := valid_stretch (h := c1 - 1) h1 (by rw [(e q).2]; omega) (by omega)
            rw [List.map_append]
            exact this
          have hq0 : q.f0 ≤ q.f1 := by
            have := hv.each (L56 q) (by simp)
            rw [(e q).1, (e q).2] at this; exact this.2.1
          obtain ⟨r, g1, g2, g3⟩ := next (o ++ [⟨q.f0, c1 - 1⟩]) pa' ta' pb' tb' a1 b1' a2 b2 (by simp at hol ⊢; omega) hv2 (grow _ fun x => by
            simp only [List.map_append, mem_append, List.map_cons, List.map_nil, mem_cons]
            show _ ∨ ((q.f0 ≤ x ∧ x ≤ c1 - 1) ∨ Mem [] x) ↔ (_ ∨ ((q.f0 ≤ x ∧ x ≤ q.f1) ∨ Mem [] x)) ∨ _
            have hn : ¬ Mem [] x := Mem.nil
            simp only [hn, or_false]
            constructor
            · rintro (h | h)
              · exact .inl (.inl h)
              · by_cases hx : x ≤ q.f1
                · exact .inl (.inr ⟨h.1, hx⟩)
                · exact .inr ⟨by omega, by omega⟩
            · rintro ((h | h) | h)
              · exact .inl h
              · exact .inr ⟨h.1, by omega⟩
              · exact .inr ⟨by omega, h.2⟩)
          refine ⟨r, go r (evSucc ?_), g2, g3⟩
          have ol := snoc_len o q
          have ob : o.length ≤ 4294967296 := by simp at hol; omega
          have hw3 : Aside0 (wrap64 ((((o ++ [q]).length : Nat) : Int) - 1) = (o.length : Int)) := Aside0.mk (by rw [ol, w64 (by omega) (by omega)]; omega)
          have hw4 : Aside0 (wrap64 (c0 - 1) = c0 - 1) := Aside0.mk (w64 (by omega) (by omega))
          have k1 : (((o ++ [q]).length : Nat) : Int) > 0 := by omega
          have k2 : (0 : Int) ≤ (o.length : Int) := by omega
          have k3 : (o.length : Int) < (((o ++ [q]).length : Nat) : Int) := by omega
          have k4 : rd_T56 (o ++ [q]) (o.length : Int) = q := rd56 o q []
          have k5 : (o ++ [q]).set (o.length : Int).toNat (⟨q.f0, c1 - 1⟩ : S56) = o ++ [⟨q.f0, c1 - 1⟩] := by simp
          simp only [leadtrailref04_combined.j6, hwant, Bool.not_true, Bool.false_eq_true, if_false, if_pos k1, hw3.out, if_pos k2, if_pos k3, k4, hw4.out, if_pos hq, k5, hw.out]
          exact g1
        have add : (∀ x, Mem (out.map L56) x → x < c0 - 1) → (∀ o q, out = o ++ [q] → ¬ q.f1 = c0 - 1) → ∃ r, Ev (fun k => leadtrailref04_combined.l0 k a b both first second out (pa.length : Int) (pb.length : Int) (P.length : Int) cuts) r ∧ ValidFrom 1073741823 (-2) (r.map L56) ∧ ∀ x, Mem (r.map L56) x ↔ want both first second (memB (a.map L56) x) (memB (b.map L56) x) = true := fun hlt hne => by
          have hv2 : ValidFrom 1073741823 (-2) ((out ++ [(⟨c0, c1 - 1⟩ : S56)]).map L56) := by
            have := valid_snoc (r := (c0, c1 - 1)) hv b0.1 (by show c0 ≤ c1 - 1; omega) (by show c1 - 1 ≤ _; omega) (by show (-2 : Int) < c0 - 1; omega) hlt
            simpa [L56] using this
          obtain ⟨r, g1, g2, g3⟩ := next (out ++ [⟨c0, c1 - 1⟩]) pa' ta' pb' tb' a1 b1' a2 b2 (by simp; omega) hv2 (grow _ fun x => by
            simp only [List.map_append, mem_append, List.map_cons, List.map_nil, mem_cons]
            show _ ∨ ((c0 ≤ x ∧ x ≤ c1 - 1) ∨ Mem [] x) ↔ _
            have hn : ¬ Mem [] x := Mem.nil
            simp only [hn, or_false])
          refine ⟨r, go r (evSucc ?_), g2, g3⟩
          have kl : out.length < 8796093022208 := by omega
          rcases List.eq_nil_or_concat out with rfl | ⟨o, q, ho⟩
          · simp only [leadtrailref04_combined.j6, hwant, Bool.not_true, Bool.false_eq_true, if_false, List.length_nil, if_neg (show ¬ ((0 : Nat) : Int) > 0 by omega), if_pos (show (0 : Nat) < 8796093022208 from Nat.zero_lt_succ _), hw.out]
            exact g1
          · have ho' : out = o ++ [q] := by simpa using ho
            subst ho'
            have ol := snoc_len o q
            have ob : o.length ≤ 4294967296 := by simp at hol; omega
            have hw3 : Aside0 (wrap64 ((((o ++ [q]).length : Nat) : Int) - 1) = (o.length : Int)) := Aside0.mk (by rw [ol, w64 (by omega) (by omega)]; omega)
            have hw4 : Aside0 (wrap64 (c0 - 1) = c0 - 1) := Aside0.mk (w64 (by omega) (by omega))
            have k1 : (((o ++ [q]).length : Nat) : Int) > 0 := by omega
            have k2 : (0 : Int) ≤ (o.length : Int) := by omega
            have k3 : (o.length : Int) < (((o ++ [q]).length : Nat) : Int) := by omega
            have k4 : rd_T56 (o ++ [q]) (o.length : Int) = q := rd56 o q []
            simp only [leadtrailref04_combined.j6, hwant, Bool.not_true, Bool.false_eq_true, if_false, if_pos k1, hw3.out, if_pos k2, if_pos k3, k4, hw4.out, if_neg (hne o q rfl), if_pos kl, hw.out]
            exact g1
        rcases List.eq_nil_or_concat out with rfl | ⟨o, q, ho⟩
        · exact add (fun x hx => (Mem.nil hx).elim) (fun o q h => by simp at h)
        · have ho' : out = o ++ [q] := by simpa using ho
          by_cases hq : q.f1 = c0 - 1
          · exact put ⟨o, q, ho', hq⟩
          · refine add (fun x hx => ?_) (fun o2 q2 h => ?_)
            · have hxc := below x hx
              by_cases hx1 : x < c0 - 1
              · exact hx1
              · exfalso
                have hq1 : q.f1 < c0 := below q.f1 (by
                  rw [ho', List.map_append, mem_append]
                  have := hv.each (L56 q) (by rw [ho']; simp)
                  exact .inr (mem_cons.2 (.inl ⟨this.2.1, Int.le_refl _⟩)))
                have hlast : ∀ {o : List S56} {last x : Int}, ValidFrom 1073741823 last ((o ++ [q]).map L56) → Mem ((o ++ [q]).map L56) x → x ≤ q.f1 := fun {o} => by
                  induction o with
                  | nil =>
                    intro last x _ h
                    rcases mem_cons.1 h with h | h
                    · exact h.2
                    · exact (Mem.nil h).elim
                  | cons p o ih =>
                    intro last x hv h
                    rcases mem_cons.1 h with h | h
                    · have h3 := hv.2.2.2.2
                      have h4 : Mem ((o ++ [q]).map L56) q.f1 := by
                        rw [List.map_append, mem_append]
                        have := h3.each (L56 q) (by simp)
                        exact .inr (mem_cons.2 (.inl ⟨this.2.1, Int.le_refl _⟩))
                      have := h3.gt h4
                      omega
                    · exact ih hv.2.2.2.2 h
                have := hlast (by rw [← ho']; exact hv) (by rw [← ho']; exact hx)
                omega
            · rw [ho'] at h
              have := List.append_inj' h rfl
              have h3 : q = q2 := by simpa using this.2
              rw [← h3]; exact hq
      · have hwf : want both first second (memB (a.map L56) c0) (memB (b.map L56) c0) = false := by simpa using hwant
        obtain ⟨r, g1, g2, g3⟩ := next out pa' ta' pb' tb' a1 b1' a2 b2 (by omega) hv (fun x => (hm x).trans ⟨fun h => ⟨h.1, by have := h.2 c0 _ rfl; omega⟩, fun h => ⟨h.1, fun c S hh => by
          injection hh with h3 _
          rw [← h3]
          by_cases hx : x < c0
          · exact hx
          · have := const x (by omega) h.2
            rw [h.1, hwf] at this; cases this⟩⟩)
        refine ⟨r, go r (evSucc ?_), g2, g3⟩
        simp only [leadtrailref04_combined.j6, hwf, Bool.not_false, if_true, hw.out]
        exact g1
termination_by C => C.length
theorem comb_is (l m : List S56) (hl : l.length * 16 ≤ 140737488351232) (hm : m.length * 16 ≤ 140737488351232) (both first second : Bool) :
    ∃ r, Ev (fun k => leadtrailref04_combined.f k l m both first second) r ∧ scalars_IsSet r (fun x => want both first second (memB (setL 1073741823 (l.map L56)) x) (memB (setL 1073741823 (m.map L56)) x) = true) := by
  obtain ⟨a, a1, a2⟩ := refSet_is l hl
  obtain ⟨va, na⟩ := refSet_facts a2
  obtain ⟨b, b1, b2⟩ := refSet_is m hm
  obtain ⟨vb, nb⟩ := refSet_facts b2
  have ea := ends_is a na va
  have eb := ends_is b nb vb
  have lea := endsL_len a
  have leb := endsL_len b
  have hm' := merged_is (endsL a) (endsL b) (by omega) (by omega)
  have hp := mergeL_perm _ (endsL a) (endsL b) rfl
  have hpl := hp.length_eq
  obtain ⟨r, g1, g2, g3⟩ := comb_loop a b both first second (mergeL (endsL a) (endsL b)) 1073741824 (Nat.le_refl _) na nb va vb (fun y hy => hp.mem_iff.2 (List.mem_append_left _ hy)) (fun y hy => hp.mem_iff.2 (List.mem_append_right _ hy)) (mergeL_sorted _ _ _ rfl (endsL_sorted va).1 (endsL_sorted vb).1)
    (fun y hy => by
      rcases List.mem_append.1 (hp.mem_iff.1 hy) with hy | hy
      · exact endsL_range va y hy
      · exact endsL_range vb y hy) (by rw [hpl, List.length_append]; omega) (mergeL (endsL a) (endsL b)) [] [] [] a [] b rfl rfl rfl (fun c R _ => ⟨fun r h => (by cases h), fun r h => (by cases h)⟩) (by simp) trivial (fun x => ⟨fun h => (Mem.nil h).elim, fun h => by
        exfalso
        obtain ⟨h1, h2⟩ := h
        have e : ∀ r : S56, (L56 r).1 = r.f0 ∧ (L56 r).2 = r.f1 := fun _ => ⟨rfl, rfl⟩
        have ahead : ∀ {l : List S56}, (∀ y ∈ endsL l, y ∈ mergeL (endsL a) (endsL b)) → memB (l.map L56) x = false := fun {l} he => by
          cases hx : memB (l.map L56) x
          · rfl
          · obtain ⟨q, hq, h3, h4⟩ := memB_iff.1 hx
            obtain ⟨r, hr, rfl⟩ := List.mem_map.1 hq
            have hin := he _ (endsL_mem hr).1
            have hs := mergeL_sorted _ _ _ rfl (endsL_sorted va).1 (endsL_sorted vb).1
            cases hc : mergeL (endsL a) (endsL b) with
            | nil => rw [hc] at hin; cases hin
            | cons c R =>
              have h5 := h2 c R hc
              rw [hc] at hin hs
              have h6 : c ≤ r.f0 := by
                rcases List.mem_cons.1 hin with h | h
                · omega
                · exact (List.pairwise_cons.1 hs).1 _ h
              rw [(e r).1] at h3; omega
        rw [ahead (fun y hy => hp.mem_iff.2 (List.mem_append_left _ hy)), ahead (fun y hy => hp.mem_iff.2 (List.mem_append_right _ hy))] at h1
        simp [want] at h1⟩)
  have hn := valid_len' g2 (by omega) (by omega)
  refine ⟨r, Ev.bind a1 (Ev.bind b1 (Ev.bind ea (Ev.bind eb (Ev.bind hm' (by simpa using g1))))), g2, by simpa using hn, fun x => by rw [g3 x, a2, b2]⟩
end Go.Proofs.Ytddffjhodiengaa.PC
