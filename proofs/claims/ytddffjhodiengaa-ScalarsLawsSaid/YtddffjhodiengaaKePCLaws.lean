/- Words and walks of this claim, of the text PCLaws. -/
import Derived.Test.YtddffjhodiengaaKeCx0
import Derived.Test.YtddffjhodiengaaKeCx3
import Derived.Test.YtddffjhodiengaaKeCx4
import Derived.Test.YtddffjhodiengaaKeCx13
import Derived.Test.YtddffjhodiengaaKeCx14
import Derived.Test.YtddffjhodiengaaKePCSets2
import Derived.Test.YtddffjhodiengaaKeCx5
import Derived.Test.YtddffjhodiengaaKePCFixed
import Derived.Test.YtddffjhodiengaaKePCSame
namespace Go.Proofs.Ytddffjhodiengaa.PC
open Go.RowKit Go.Proofs.YtddffjhodiengaaW.PrintWords Go.Proofs.YtddffjhodiengaaW.PrintLast Go.Proofs.YtddffjhodiengaaW.PrintMore Go.Proofs.Ytddffjhodiengaa.C Go.Proofs.LT
set_option linter.unusedVariables false
set_option linter.unusedSimpArgs false
theorem leadtraillaw04_ScalarsLaws_sizes {a b u m : List S56} {pa pb : Int → Prop} (ha : scalars_IsSet a pa) (hb : scalars_IsSet b pb) (hu : scalars_IsSet u (fun x => Mem (a.map L56) x ∨ Mem (b.map L56) x)) (hm : scalars_IsSet m (fun x => Mem (a.map L56) x ∧ Mem (b.map L56) x)) :
    size (a.map L56) + size (b.map L56) = size (u.map L56) + size (m.map L56) := by
  have e1 := cd_size (n := 1073741824) ha.1 (by omega)
  have e2 := cd_size (n := 1073741824) hb.1 (by omega)
  have e3 := cd_size (n := 1073741824) hu.1 (by omega)
  have e4 := cd_size (n := 1073741824) hm.1 (by omega)
  have e5 := cd_add (memB (a.map L56)) (memB (b.map L56)) 1073741824
  have e6 : cd (memB (u.map L56)) 1073741824 = cd (fun i => memB (a.map L56) i || memB (b.map L56) i) 1073741824 := cd_congr fun i _ _ => by
    rw [Bool.eq_iff_iff, memB_iff, hu.2.2 i]; simp [memB_iff]
  have e7 : cd (memB (m.map L56)) 1073741824 = cd (fun i => memB (a.map L56) i && memB (b.map L56) i) 1073741824 := cd_congr fun i _ _ => by
    rw [Bool.eq_iff_iff, memB_iff, hm.2.2 i]; simp [memB_iff]
  rw [← e6, ← e7] at e5
  omega
theorem leadtraillaw04_ScalarsLaws_j1 {a b u m d : List S56} {pa pb : Int → Prop} (ha : scalars_IsSet a pa) (hb : scalars_IsSet b pb) (hu : scalars_IsSet u (fun x => Mem (a.map L56) x ∨ Mem (b.map L56) x)) (hm : scalars_IsSet m (fun x => Mem (a.map L56) x ∧ Mem (b.map L56) x)) (hd : scalars_IsSet d (fun x => Mem (a.map L56) x ∧ ¬ Mem (b.map L56) x)) :
    Ev (fun k => leadtraillaw04_ScalarsLaws.j1 k a b u m d false) true := by
  have la : a.length * 16 ≤ 140737488351232 := by have := ha.2.1; omega
  have lb : b.length * 16 ≤ 140737488351232 := by have := hb.2.1; omega
  have lu : u.length * 16 ≤ 140737488351232 := by have := hu.2.1; omega
  have lm : m.length * 16 ≤ 140737488351232 := by have := hm.2.1; omega
  have ld : d.length * 16 ≤ 140737488351232 := by have := hd.2.1; omega
  have sa := setL_of ha.1
  have sb := setL_of hb.1
  obtain ⟨r1, g1, i1⟩ := scalars_Union_is b a lb la
  rw [sa, sb] at i1
  obtain rfl : r1 = u := scalars_IsSet.uniq i1 hu fun x => Or.comm
  obtain ⟨r2, g2, i2⟩ := scalars_Meet_is b a lb la
  rw [sa, sb] at i2
  obtain rfl : r2 = m := scalars_IsSet.uniq i2 hm fun x => And.comm
  obtain ⟨nb, g3, i3⟩ := scalars_Not_is b lb
  rw [sb] at i3
  have lnb : nb.length * 16 ≤ 140737488351232 := by have := i3.2.1; omega
  obtain ⟨r3, g4, i4⟩ := scalars_Meet_is a nb la lnb
  rw [sa, setL_of i3.1] at i4
  obtain rfl : r3 = d := scalars_IsSet.uniq i4 hd fun x => by
    rw [i3.2.2 x]
    exact ⟨fun h => ⟨h.1, h.2.2⟩, fun h => ⟨h.1, ha.1.range h.1, h.2⟩⟩
  obtain ⟨na, g5, i5⟩ := scalars_Not_is a la
  rw [sa] at i5
  have lna : na.length * 16 ≤ 140737488351232 := by have := i5.2.1; omega
  obtain ⟨r4, g6, i6⟩ := scalars_Not_is na lna
  rw [setL_of i5.1] at i6
  obtain rfl : r4 = a := scalars_IsSet.uniq i6 ha fun x => by
    rw [i5.2.2 x, ← ha.2.2 x]
    constructor
    · rintro ⟨h1, h2⟩
      exact Classical.byContradiction fun h => h2 ⟨h1, h⟩
    · intro h
      exact ⟨ha.1.range h, fun h2 => h2.2 h⟩
  have z1 := scalars_Size_is r4 la
  have z2 := scalars_Size_is b lb
  have z3 := scalars_Size_is r1 lu
  have z4 := scalars_Size_is r2 lm
  rw [sa] at z1
  rw [sb] at z2
  rw [setL_of hu.1] at z3
  rw [setL_of hm.1] at z4
  have hz := leadtraillaw04_ScalarsLaws_sizes ha hb hu hm
  refine evSucc ?_
  simp only [leadtraillaw04_ScalarsLaws.j1, Bool.false_eq_true, if_false]
  refine Ev.bind g1 (Ev.bind (leadtrailref04_Same_self r1 lu) ?_)
  simp only [if_true]
  refine Ev.bind g2 (Ev.bind (leadtrailref04_Same_self r2 lm) ?_)
  simp only [if_true]
  refine Ev.bind g3 (Ev.bind g4 (Ev.bind (leadtrailref04_Same_self r3 ld) ?_))
  simp only [if_true]
  refine Ev.bind g5 (Ev.bind g6 (Ev.bind (leadtrailref04_Same_self r4 la) ?_))
  simp only [if_true]
  refine Ev.bind z1 (Ev.bind z2 (Ev.bind z3 (Ev.bind z4 ?_)))
  rw [hz]
  simp only [beq_self_eq_true]
  exact evNow _
theorem leadtraillaw04_ScalarsLaws_j0 {a b : List S56} {pa pb : Int → Prop} (ha : scalars_IsSet a pa) (hb : scalars_IsSet b pb) (x e f : Int) (hx : (Lit.int .i64 x).wf = true) : Ev (fun k => leadtraillaw04_ScalarsLaws.j0 k x a e b f false) true := by
  have la : a.length * 16 ≤ 140737488351232 := by have := ha.2.1; omega
  have lb : b.length * 16 ≤ 140737488351232 := by have := hb.2.1; omega
  have sa := setL_of ha.1
  have sb := setL_of hb.1
  obtain ⟨u, g1, hu⟩ := scalars_Union_is a b la lb
  obtain ⟨m, g2, hm⟩ := scalars_Meet_is a b la lb
  obtain ⟨d, g3, hd⟩ := scalars_Minus_is a b la lb
  obtain ⟨n, g4, hn⟩ := scalars_Not_is a la
  rw [sa, sb] at hu hm hd
  rw [sa] at hn
  have lu : u.length * 16 ≤ 140737488351232 := by have := hu.2.1; omega
  have lm : m.length * 16 ≤ 140737488351232 := by have := hm.2.1; omega
  have ld : d.length * 16 ≤ 140737488351232 := by have := hd.2.1; omega
  have ln : n.length * 16 ≤ 140737488351232 := by have := hn.2.1; omega
  have k1 := scalars_Has_is a x hx la
  have k2 := scalars_Has_is b x hx lb
  have k3 := scalars_Has_is u x hx lu
  have k4 := scalars_Has_is m x hx lm
  have k5 := scalars_Has_is d x hx ld
  have k6 := scalars_Has_is n x hx ln
  rw [sa] at k1
  rw [sb] at k2
  rw [setL_of hu.1] at k3
  rw [setL_of hm.1] at k4
  rw [setL_of hd.1] at k5
  rw [setL_of hn.1] at k6
  have b3 : memB (u.map L56) x = (memB (a.map L56) x || memB (b.map L56) x) := by rw [Bool.eq_iff_iff, memB_iff, hu.2.2 x]; simp [memB_iff]
  have b4 : memB (m.map L56) x = (memB (a.map L56) x && memB (b.map L56) x) := by rw [Bool.eq_iff_iff, memB_iff, hm.2.2 x]; simp [memB_iff]
  have b5 : memB (d.map L56) x = (memB (a.map L56) x && !memB (b.map L56) x) := by rw [Bool.eq_iff_iff, memB_iff, hd.2.2 x]; simp [memB_iff, ← Bool.not_eq_true]
  have b6 : memB (n.map L56) x = (decide (0 ≤ x ∧ x ≤ 1073741823) && !memB (a.map L56) x) := by rw [Bool.eq_iff_iff, memB_iff, hn.2.2 x]; simp [memB_iff, ← Bool.not_eq_true]
  have hj := leadtraillaw04_ScalarsLaws_j1 ha hb hu hm hd
  refine evSucc ?_
  simp only [leadtraillaw04_ScalarsLaws.j0, Bool.false_eq_true, if_false]
  refine Ev.bind g1 (Ev.bind g2 (Ev.bind g3 (Ev.bind k1 (Ev.bind k2 (Ev.bind k3 ?_)))))
  rw [b3]
  rw [b4] at k4
  rw [b5] at k5
  rw [b6] at k6
  generalize memB (a.map L56) x = A at *
  generalize memB (b.map L56) x = B at *
  have fin : ∀ (C : Bool), C = !A → Ev (fun k => (scalars_Not.f k a).bind fun t316 => ((scalars_Has.f k t316 x).bind fun t319 => (if x ≥ 0 then (if x ≤ 1073741823 then (leadtraillaw04_ScalarsLaws.j1 k a b u m d (t319 != C)) else (leadtraillaw04_ScalarsLaws.j1 k a b u m d (t319 != false))) else (leadtraillaw04_ScalarsLaws.j1 k a b u m d (t319 != false))))) true := fun C hC => by
    refine Ev.bind g4 (Ev.bind k6 ?_)
    by_cases d1 : x ≥ 0
    · by_cases d2 : x ≤ 1073741823
      · simp only [if_pos d1, if_pos d2, decide_eq_true (show 0 ≤ x ∧ x ≤ 1073741823 from ⟨d1, d2⟩), Bool.true_and, hC, bne_self_eq_false]
        exact hj
      · simp only [if_pos d1, if_neg d2, decide_eq_false (show ¬ (0 ≤ x ∧ x ≤ 1073741823) by omega), Bool.false_and, bne_self_eq_false]
        exact hj
    · simp only [if_neg d1, decide_eq_false (show ¬ (0 ≤ x ∧ x ≤ 1073741823) by omega), Bool.false_and, bne_self_eq_false]
      exact hj
  cases A
  · simp only [Bool.false_eq_true, if_false, Bool.false_or, bne_self_eq_false]
    refine Ev.bind k4 ?_
    simp only [Bool.false_and, Bool.false_eq_true, if_false, bne_self_eq_false]
    refine Ev.bind k5 ?_
    simp only [Bool.false_and, Bool.false_eq_true, if_false, bne_self_eq_false]
    exact fin _ rfl
  · simp only [if_true, Bool.true_or, bne_self_eq_false, Bool.false_eq_true, if_false]
    refine Ev.bind k4 ?_
    simp only [Bool.true_and, bne_self_eq_false, Bool.false_eq_true, if_false]
    refine Ev.bind k5 ?_
    simp only [Bool.true_and, bne_self_eq_false, Bool.false_eq_true, if_false]
    exact fin _ rfl
theorem leadtraillaw04_ScalarsLaws_ev (l m : List S56) (x : Int) (hl : l.length * 16 ≤ 140737488351232) (hm : m.length * 16 ≤ 140737488351232) (hx : (Lit.int .i64 x).wf = true) : Ev (fun k => leadtraillaw04_ScalarsLaws.f k l m x) true := by
  simp only [leadtraillaw04_ScalarsLaws.f]
  refine Ev.bind fixed04 ?_
  simp only [if_true, copied04 l hl, copied04 m hm, Option.bind_some]
  have hn := scalars_Norm_is l hl
  have hn2 := scalars_Norm_is m hm
  have any2 : ∃ (s : List S56) (i e : Int), Ev (fun k => scalars_Norm.f k m) (s, i, e) ∧ ((e = 0 ∧ ∃ p, scalars_IsSet s p) ∨ (e = 1 ∧ s = [])) := by
    cases hb : m.findIdx? scalars_badP with
    | some i => exact ⟨_, _, _, hn2.1 i hb, .inr ⟨rfl, rfl⟩⟩
    | none => obtain ⟨s, h1, hs⟩ := hn2.2 hb; exact ⟨_, _, _, h1, .inl ⟨rfl, _, hs⟩⟩
  obtain ⟨b, i2, f, h2, hf⟩ := any2
  cases hb : l.findIdx? scalars_badP with
  | some i =>
    refine Ev.bind (hn.1 i hb) (Ev.bind h2 ?_)
    simp only [show ¬ ((1 : Int) = 0) by omega, if_false]
    refine evSucc ?_
    simp only [leadtraillaw04_ScalarsLaws.j0, if_true, List.length_nil, show (((0 : Nat) : Int) = 0) from rfl, show ¬ ((1 : Int) = 0) by omega, if_false]
    exact evNow _
  | none =>
    obtain ⟨s, h1, hs⟩ := hn.2 hb
    refine Ev.bind h1 (Ev.bind h2 ?_)
    rcases hf with ⟨rfl, q, hq⟩ | ⟨rfl, rfl⟩
    · simp only [if_true, bne_self_eq_false]
      exact leadtraillaw04_ScalarsLaws_j0 hs hq x 0 0 hx
    · simp only [if_true, show ((1 : Int) != 0) = true by decide]
      refine evSucc ?_
      simp only [leadtraillaw04_ScalarsLaws.j0, if_true, List.length_nil, show (((0 : Nat) : Int) = 0) from rfl, show ((1 : Int) != 0) = true by decide]
      by_cases d : (s.length : Int) = 0
      · simp only [if_pos d]; exact evNow _
      · simp only [if_neg d]; exact evNow _
end Go.Proofs.Ytddffjhodiengaa.PC
namespace Go.Proofs.Ytddffjhodiengaa.Pure
open Go.Proofs.Ytddffjhodiengaa.C Go.Proofs.YtddffjhodiengaaW.PrintWords
theorem ScalarsLaws : ∀ (l0_0 : List S56) (l0_1 : List S56) (a1 : Int), (l0_0.length * 16 ≤ 140737488351232 ∧ ∀ x ∈ l0_0, ((Lit.int .i64 x.f0).wf = true ∧ (Lit.int .i64 x.f1).wf = true)) → (l0_1.length * 16 ≤ 140737488351232 ∧ ∀ x ∈ l0_1, ((Lit.int .i64 x.f0).wf = true ∧ (Lit.int .i64 x.f1).wf = true)) → (Lit.int .i64 a1).wf = true → ∃ k, leadtraillaw04_ScalarsLaws.f k l0_0 l0_1 a1 = some true :=
  fun l0 l1 a1 h h' h1 => Ev.rounds (PC.leadtraillaw04_ScalarsLaws_ev l0 l1 a1 h.1 h'.1 h1)
end Go.Proofs.Ytddffjhodiengaa.Pure
