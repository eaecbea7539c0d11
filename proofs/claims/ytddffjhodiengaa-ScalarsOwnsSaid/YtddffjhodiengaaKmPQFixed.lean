/- Words and walks of this claim, of the text PQFixed. -/
import Derived.Test.YtddffjhodiengaaKmQx0
import Derived.Test.YtddffjhodiengaaKmQx4
import Derived.Test.YtddffjhodiengaaKmPQSets
namespace Go.Proofs.Ytddffjhodiengaa.PQ
open Go.RowKit Go.Proofs.YtddffjhodiengaaW.PrintWords Go.Proofs.YtddffjhodiengaaW.PrintLast Go.Proofs.YtddffjhodiengaaW.PrintMore Go.Proofs.Ytddffjhodiengaa.Q Go.Proofs.LT
set_option linter.unusedVariables false
set_option linter.unusedSimpArgs false
theorem fixed04 : Ev (fun k => leadtraillaw04_fixed.f k) true := by
  have h1 := (scalars_Norm_is ([⟨1000, 1009⟩, ⟨0, 99⟩, ⟨100, 127⟩] : List S56) (by decide)).2 (by decide)
  obtain ⟨r, h1, h2⟩ := h1
  have hv : ValidFrom 1073741823 (-2) [(0, 127), (1000, 1009)] := (validB_iff _ _ _).1 (by decide +kernel)
  have hr : r = [⟨0, 127⟩, ⟨1000, 1009⟩] := by
    refine scalars_IsSet.uniq (b := [⟨0, 127⟩, ⟨1000, 1009⟩]) (q := fun x => Mem [(0, 127), (1000, 1009)] x) h2 ⟨hv, by decide, fun x => Iff.rfl⟩ fun x => ?_
    show Mem [(1000, 1009), (0, 99), (100, 127)] x ↔ Mem [(0, 127), (1000, 1009)] x
    simp only [mem_cons]
    constructor
    · rintro (h | h | h | h) <;> first | exact .inl (by omega) | exact .inr (.inl (by omega)) | exact (Mem.nil h).elim
    · rintro (h | h | h)
      · by_cases e : x ≤ 99
        · exact .inr (.inl (by omega))
        · exact .inr (.inr (.inl (by omega)))
      · exact .inl (by omega)
      · exact (Mem.nil h).elim
  subst hr
  have hs : setL 1073741823 (([⟨0, 127⟩, ⟨1000, 1009⟩] : List S56).map L56) = [(0, 127), (1000, 1009)] := setL_of hv
  obtain ⟨q, h3, h4⟩ := scalars_Select_is ([⟨0, 127⟩, ⟨1000, 1009⟩] : List S56) 137 (by decide) (by decide)
  rw [hs] at h4
  have hq : q = (1009, true) := Sel.uniq hv h4 (.inl ⟨1009, memB_iff.1 (by decide +kernel), by decide +kernel, rfl⟩)
  subst hq
  have h5 := scalars_Size_is ([⟨0, 127⟩, ⟨1000, 1009⟩] : List S56) (by decide)
  rw [hs, show size [(0, 127), (1000, 1009)] = 138 from by decide +kernel] at h5
  simp only [leadtraillaw04_fixed.f]
  refine Ev.bind h1 (Ev.bind h3 ?_)
  simp [rd_T56]
  exact Ev.bind h5 (evNow _)
theorem copied04 (l : List S56) (hl : l.length * 16 ≤ 140737488351232) : leadtraillaw04_copied.f l = some l := by
  unfold leadtraillaw04_copied.f
  simp only [Option.bind_some, List.length_nil, Nat.zero_add, List.nil_append]
  rw [if_pos (by omega)]
end Go.Proofs.Ytddffjhodiengaa.PQ
