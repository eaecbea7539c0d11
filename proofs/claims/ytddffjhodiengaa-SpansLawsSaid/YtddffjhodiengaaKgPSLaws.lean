/- Words and walks of this claim, of the text PSLaws. -/
import Derived.Test.YtddffjhodiengaaKgSx0
import Derived.Test.YtddffjhodiengaaKgSx4
import Derived.Test.YtddffjhodiengaaKgSx5
import Derived.Test.YtddffjhodiengaaKgSx8
import Derived.Test.YtddffjhodiengaaKgPSSets2
import Derived.Test.YtddffjhodiengaaKgSx6
import Derived.Test.YtddffjhodiengaaKgPSFixed
import Derived.Test.YtddffjhodiengaaKgPSSame
namespace Go.Proofs.Ytddffjhodiengaa.PS
open Go.RowKit Go.Proofs.YtddffjhodiengaaW.PrintWords Go.Proofs.YtddffjhodiengaaW.PrintLast Go.Proofs.YtddffjhodiengaaW.PrintMore Go.Proofs.Ytddffjhodiengaa.S Go.Proofs.LT
set_option linter.unusedVariables false
set_option linter.unusedSimpArgs false
theorem leadtraillaw03_SpansLaws_sizes {a b u m : List S49} {pa pb : Int → Prop} (ha : spans_IsSet a pa) (hb : spans_IsSet b pb) (hu : spans_IsSet u (fun x => Mem (a.map L49) x ∨ Mem (b.map L49) x)) (hm : spans_IsSet m (fun x => Mem (a.map L49) x ∧ Mem (b.map L49) x)) :
    size (a.map L49) + size (b.map L49) = size (u.map L49) + size (m.map L49) := by
  have e1 := cd_size (n := 1073741824) ha.1 (by omega)
  have e2 := cd_size (n := 1073741824) hb.1 (by omega)
  have e3 := cd_size (n := 1073741824) hu.1 (by omega)
  have e4 := cd_size (n := 1073741824) hm.1 (by omega)
  have e5 := cd_add (memB (a.map L49)) (memB (b.map L49)) 1073741824
  have e6 : cd (memB (u.map L49)) 1073741824 = cd (fun i => memB (a.map L49) i || memB (b.map L49) i) 1073741824 := cd_congr fun i _ _ => by
    rw [Bool.eq_iff_iff, memB_iff, hu.2.2 i]; simp [memB_iff]
  have e7 : cd (memB (m.map L49)) 1073741824 = cd (fun i => memB (a.map L49) i && memB (b.map L49) i) 1073741824 := cd_congr fun i _ _ => by
    rw [Bool.eq_iff_iff, memB_iff, hm.2.2 i]; simp [memB_iff]
  rw [← e6, ← e7] at e5
  omega
theorem leadtraillaw03_SpansLaws_j1 {a b u m d : List S49} {pa pb : Int → Prop} (ha : spans_IsSet a pa) (hb : spans_IsSet b pb) (hu : spans_IsSet u (fun x => Mem (a.map L49) x ∨ Mem (b.map L49) x)) (hm : spans_IsSet m (fun x => Mem (a.map L49) x ∧ Mem (b.map L49) x)) (hd : spans_IsSet d (fun x => Mem (a.map L49) x ∧ ¬ Mem (b.map L49) x)) :
    Ev (fun k => leadtraillaw03_SpansLaws.j1 k a b u m d false) true := by
  have la : a.length * 16 ≤ 140737488351232 := by have := ha.2.1; omega
  have lb : b.length * 16 ≤ 140737488351232 := by have := hb.2.1; omega
  have lu : u.length * 16 ≤ 140737488351232 := by have := hu.2.1; omega
  have lm : m.length * 16 ≤ 140737488351232 := by have := hm.2.1; omega
  have ld : d.length * 16 ≤ 140737488351232 := by have := hd.2.1; omega
  have sa := setL_of ha.1
  have sb := setL_of hb.1
  obtain ⟨r1, g1, i1⟩ := spans_Union_is b a lb la
  rw [sa, sb] at i1
  obtain rfl : r1 = u := spans_IsSet.uniq i1 hu fun x => Or.comm
  obtain ⟨r2, g2, i2⟩ := spans_Meet_is b a lb la
  rw [sa, sb] at i2
  obtain rfl : r2 = m := spans_IsSet.uniq i2 hm fun x => And.comm
  obtain ⟨nb, g3, i3⟩ := spans_Not_is b lb
  rw [sb] at i3
  have lnb : nb.length * 16 ≤ 140737488351232 := by have := i3.2.1; omega
  obtain ⟨r3, g4, i4⟩ := spans_Meet_is a nb la lnb
  rw [sa, setL_of i3.1] at i4
  obtain rfl : r3 = d := spans_IsSet.uniq i4 hd fun x => by
    rw [i3.2.2 x]
    exact ⟨fun h => ⟨h.1, h.2.2⟩, fun h => ⟨h.1, ha.1.range h.1, h.2⟩⟩
  obtain ⟨na, g5, i5⟩ := spans_Not_is a la
  rw [sa] at i5
  have lna : na.length * 16 ≤ 140737488351232 := by have := i5.2.1; omega
  obtain ⟨r4, g6, i6⟩ := spans_Not_is na lna
  rw [setL_of i5.1] at i6
  obtain rfl : r4 = a := spans_IsSet.uniq i6 ha fun x => by
    rw [i5.2.2 x, ← ha.2.2 x]
    constructor
    · rintro ⟨h1, h2⟩
      exact Classical.byContradiction fun h => h2 ⟨h1, h⟩
    · intro h
      exact ⟨ha.1.range h, fun h2 => h2.2 h⟩
  have z1 := spans_Size_is r4 la
  have z2 := spans_Size_is b lb
  have z3 := spans_Size_is r1 lu
  have z4 := spans_Size_is r2 lm
  rw [sa] at z1
  rw [sb] at z2
  rw [setL_of hu.1] at z3
  rw [setL_of hm.1] at z4
  have hz := leadtraillaw03_SpansLaws_sizes ha hb hu hm
  refine evSucc ?_
  simp only [leadtraillaw03_SpansLaws.j1, Bool.false_eq_true, if_false]
  refine Ev.bind g1 (Ev.bind (leadtrailref03_Same_self r1 lu) ?_)
  simp only [if_true]
  refine Ev.bind g2 (Ev.bind (leadtrailref03_Same_self r2 lm) ?_)
  simp only [if_true]
  refine Ev.bind g3 (Ev.bind g4 (Ev.bind (leadtrailref03_Same_self r3 ld) ?_))
  simp only [if_true]
  refine Ev.bind g5 (Ev.bind g6 (Ev.bind (leadtrailref03_Same_self r4 la) ?_))
  simp only [if_true]
  refine Ev.bind z1 (Ev.bind z2 (Ev.bind z3 (Ev.bind z4 ?_)))
  rw [hz]
  simp only [beq_self_eq_true]
  exact evNow _
theorem leadtraillaw03_SpansLaws_j0 {a b : List S49} {pa pb : Int → Prop} (ha : spans_IsSet a pa) (hb : spans_IsSet b pb) (x e f : Int) (hx : (Lit.int .i64 x).wf = true) : Ev (fun k => leadtraillaw03_SpansLaws.j0 k x a e b f false) true := by
  have la : a.length * 16 ≤ 140737488351232 := by have := ha.2.1; omega
  have lb : b.length * 16 ≤ 140737488351232 := by have := hb.2.1; omega
  have sa := setL_of ha.1
  have sb := setL_of hb.1
  obtain ⟨u, g1, hu⟩ := spans_Union_is a b la lb
  obtain ⟨m, g2, hm⟩ := spans_Meet_is a b la lb
  obtain ⟨d, g3, hd⟩ := spans_Minus_is a b la lb
  obtain ⟨n, g4, hn⟩ := spans_Not_is a la
  rw [sa, sb] at hu hm hd
  rw [sa] at hn
  have lu : u.length * 16 ≤ 140737488351232 := by have := hu.2.1; omega
  have lm : m.length * 16 ≤ 140737488351232 := by have := hm.2.1; omega
  have ld : d.length * 16 ≤ 140737488351232 := by have := hd.2.1; omega
  have ln : n.length * 16 ≤ 140737488351232 := by have := hn.2.1; omega
  have k1 := spans_Has_is a x hx la
  have k2 := spans_Has_is b x hx lb
  have k3 := spans_Has_is u x hx lu
  have k4 := spans_Has_is m x hx lm
  have k5 := spans_Has_is d x hx ld
  have k6 := spans_Has_is n x hx ln
  rw [sa] at k1
  rw [sb] at k2
  rw [setL_of hu.1] at k3
  rw [setL_of hm.1] at k4
  rw [setL_of hd.1] at k5
  rw [setL_of hn.1] at k6
  have b3 : memB (u.map L49) x = (memB (a.map L49) x || memB (b.map L49) x) := by rw [Bool.eq_iff_iff, memB_iff, hu.2.2 x]; simp [memB_iff]
  have b4 : memB (m.map L49) x = (memB (a.map L49) x && memB (b.map L49) x) := by rw [Bool.eq_iff_iff, memB_iff, hm.2.2 x]; simp [memB_iff]
  have b5 : memB (d.map L49) x = (memB (a.map L49) x && !memB (b.map L49) x) := by rw [Bool.eq_iff_iff, memB_iff, hd.2.2 x]; simp [memB_iff, ← Bool.not_eq_true]
  have b6 : memB (n.map L49) x = (decide (0 ≤ x ∧ x ≤ 255) && !memB (a.map L49) x) := by rw [Bool.eq_iff_iff, memB_iff, hn.2.2 x]; simp [memB_iff, ← Bool.not_eq_true]
  have hj := leadtraillaw03_SpansLaws_j1 ha hb hu hm hd
  refine evSucc ?_
  simp only [leadtraillaw03_SpansLaws.j0, Bool.false_eq_true, if_false]
  refine Ev.bind g1 (Ev.bind g2 (Ev.bind g3 (Ev.bind k1 (Ev.bind k2 (Ev.bind k3 ?_)))))
  rw [b3]
  rw [b4] at k4
  rw [b5] at k5
  rw [b6] at k6
  generalize memB (a.map L49) x = A at *
  generalize memB (b.map L49) x = B at *
  have fin : ∀ (C : Bool), C = !A → Ev (fun k => (spans_Not.f k a).bind fun t316 => ((spans_Has.f k t316 x).bind fun t319 => (if x ≥ 0 then (if x ≤ 255 then (leadtraillaw03_SpansLaws.j1 k a b u m d (t319 != C)) else (leadtraillaw03_SpansLaws.j1 k a b u m d (t319 != false))) else (leadtraillaw03_SpansLaws.j1 k a b u m d (t319 != false))))) true := fun C hC => by
    refine Ev.bind g4 (Ev.bind k6 ?_)
    by_cases d1 : x ≥ 0
    · by_cases d2 : x ≤ 255
      · simp only [if_pos d1, if_pos d2, decide_eq_true (show 0 ≤ x ∧ x ≤ 255 from ⟨d1, d2⟩), Bool.true_and, hC, bne_self_eq_false]
        exact hj
      · simp only [if_pos d1, if_neg d2, decide_eq_false (show ¬ (0 ≤ x ∧ x ≤ 255) by omega), Bool.false_and, bne_self_eq_false]
        exact hj
    · simp only [if_neg d1, decide_eq_false (show ¬ (0 ≤ x ∧ x ≤ 255) by omega), Bool.false_and, bne_self_eq_false]
      exact hj
  cases A
  · simp only [Bool.false_eq_true, if_false, Bool.false_or, bne_self_eq_false]
    refine Ev.bind k4 ?_
    simp only [Bool.false_and, Bool.false_eq_true, if_false, bne_self_eq_false]
    refine Ev.bind k5 ?_
    simp only [Bool.false_and, Bool.false_eq_true, if_false, bne_self_eq_false]
    exact fin _ rfl
  · simp only [if_true, Bool.true_or, bne_self_eq_false, Bool.false_eq_true, if_false]
    refine Ev.bind k4 ?_
    simp only [Bool.true_and, bne_self_eq_false, Bool.false_eq_true, if_false]
    refine Ev.bind k5 ?_
    simp only [Bool.true_and, bne_self_eq_false, Bool.false_eq_true, if_false]
    exact fin _ rfl
theorem leadtraillaw03_SpansLaws_ev (l m : List S49) (x : Int) (hl : l.length * 16 ≤ 140737488351232) (hm : m.length * 16 ≤ 140737488351232) (hx : (Lit.int .i64 x).wf = true) : Ev (fun k => leadtraillaw03_SpansLaws.f k l m x) true := by
  simp only [leadtraillaw03_SpansLaws.f]
  refine Ev.bind fixed03 ?_
  simp only [if_true, copied03 l hl, copied03 m hm, Option.bind_some]
  have hn := spans_Norm_is l hl
  have hn2 := spans_Norm_is m hm
  have any2 : ∃ (s : List S49) (i e : Int), Ev (fun k => spans_Norm.f k m) (s, i, e) ∧ ((e = 0 ∧ ∃ p, spans_IsSet s p) ∨ (e = 1 ∧ s = [])) := by
    cases hb : m.findIdx? spans_badP with
    | some i => exact ⟨_, _, _, hn2.1 i hb, .inr ⟨rfl, rfl⟩⟩
    | none => obtain ⟨s, h1, hs⟩ := hn2.2 hb; exact ⟨_, _, _, h1, .inl ⟨rfl, _, hs⟩⟩
  obtain ⟨b, i2, f, h2, hf⟩ := any2
  cases hb : l.findIdx? spans_badP with
  | some i =>
    refine Ev.bind (hn.1 i hb) (Ev.bind h2 ?_)
    simp only [show ¬ ((1 : Int) = 0) by omega, if_false]
    refine evSucc ?_
    simp only [leadtraillaw03_SpansLaws.j0, if_true, List.length_nil, show (((0 : Nat) : Int) = 0) from rfl, show ¬ ((1 : Int) = 0) by omega, if_false]
    exact evNow _
  | none =>
    obtain ⟨s, h1, hs⟩ := hn.2 hb
    refine Ev.bind h1 (Ev.bind h2 ?_)
    rcases hf with ⟨rfl, q, hq⟩ | ⟨rfl, rfl⟩
    · simp only [if_true, bne_self_eq_false]
      exact leadtraillaw03_SpansLaws_j0 hs hq x 0 0 hx
    · simp only [if_true, show ((1 : Int) != 0) = true by decide]
      refine evSucc ?_
      simp only [leadtraillaw03_SpansLaws.j0, if_true, List.length_nil, show (((0 : Nat) : Int) = 0) from rfl, show ((1 : Int) != 0) = true by decide]
      by_cases d : (s.length : Int) = 0
      · simp only [if_pos d]; exact evNow _
      · simp only [if_neg d]; exact evNow _
end Go.Proofs.Ytddffjhodiengaa.PS
namespace Go.Proofs.Ytddffjhodiengaa.Pure
open Go.Proofs.Ytddffjhodiengaa.S Go.Proofs.YtddffjhodiengaaW.PrintWords
theorem SpansLaws : ∀ (l0_0 : List S49) (l0_1 : List S49) (a1 : Int), (l0_0.length * 16 ≤ 140737488351232 ∧ ∀ x ∈ l0_0, ((Lit.int .i64 x.f0).wf = true ∧ (Lit.int .i64 x.f1).wf = true)) → (l0_1.length * 16 ≤ 140737488351232 ∧ ∀ x ∈ l0_1, ((Lit.int .i64 x.f0).wf = true ∧ (Lit.int .i64 x.f1).wf = true)) → (Lit.int .i64 a1).wf = true → ∃ k, leadtraillaw03_SpansLaws.f k l0_0 l0_1 a1 = some true :=
  fun l0 l1 a1 h h' h1 => Ev.rounds (PS.leadtraillaw03_SpansLaws_ev l0 l1 a1 h.1 h'.1 h1)
end Go.Proofs.Ytddffjhodiengaa.Pure
