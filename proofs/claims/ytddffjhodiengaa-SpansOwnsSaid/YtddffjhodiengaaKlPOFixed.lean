/- Words and walks of this claim, of the text POFixed. -/
import Derived.Test.YtddffjhodiengaaKlOx0
import Derived.Test.YtddffjhodiengaaKlOx5
import Derived.Test.YtddffjhodiengaaKlPOSets
namespace Go.Proofs.Ytddffjhodiengaa.PO
open Go.RowKit Go.Proofs.YtddffjhodiengaaW.PrintWords Go.Proofs.YtddffjhodiengaaW.PrintLast Go.Proofs.YtddffjhodiengaaW.PrintMore Go.Proofs.Ytddffjhodiengaa.O Go.Proofs.LT
set_option linter.unusedVariables false
set_option linter.unusedSimpArgs false
theorem fixed03 : Ev (fun k => leadtraillaw03_fixed.f k) true := by
  have h1 := (spans_Norm_is ([⟨128, 159⟩, ⟨65, 90⟩, ⟨91, 91⟩, ⟨144, 175⟩] : List S49) (by decide)).2 (by decide)
  obtain ⟨r, h1, h2⟩ := h1
  have hv : ValidFrom 255 (-2) [(65, 91), (128, 175)] := (validB_iff _ _ _).1 (by decide +kernel)
  have hr : r = [⟨65, 91⟩, ⟨128, 175⟩] := by
    refine spans_IsSet.uniq (b := [⟨65, 91⟩, ⟨128, 175⟩]) (q := fun x => Mem [(65, 91), (128, 175)] x) h2 ⟨hv, by decide, fun x => Iff.rfl⟩ fun x => ?_
    show Mem [(128, 159), (65, 90), (91, 91), (144, 175)] x ↔ Mem [(65, 91), (128, 175)] x
    simp only [mem_cons]
    constructor
    · rintro (h | h | h | h | h) <;> first | exact .inl (by omega) | exact .inr (.inl (by omega)) | exact (Mem.nil h).elim
    · rintro (h | h | h)
      · by_cases e : x ≤ 90
        · exact .inr (.inl (by omega))
        · exact .inr (.inr (.inl (by omega)))
      · by_cases e : x ≤ 159
        · exact .inl (by omega)
        · exact .inr (.inr (.inr (.inl (by omega))))
      · exact (Mem.nil h).elim
  subst hr
  have hs : setL 255 (([⟨65, 91⟩, ⟨128, 175⟩] : List S49).map L49) = [(65, 91), (128, 175)] := setL_of hv
  obtain ⟨q, h3, h4⟩ := spans_Select_is ([⟨65, 91⟩, ⟨128, 175⟩] : List S49) 27 (by decide) (by decide)
  rw [hs] at h4
  have hq : q = (128, true) := Sel.uniq hv h4 (.inl ⟨128, memB_iff.1 (by decide +kernel), by decide +kernel, rfl⟩)
  subst hq
  have h5 := spans_Size_is ([⟨65, 91⟩, ⟨128, 175⟩] : List S49) (by decide)
  rw [hs, show size [(65, 91), (128, 175)] = 75 from by decide +kernel] at h5
  simp only [leadtraillaw03_fixed.f]
  refine Ev.bind h1 (Ev.bind h3 ?_)
  simp [rd_T49]
  exact Ev.bind h5 (evNow _)
theorem copied03 (l : List S49) (hl : l.length * 16 ≤ 140737488351232) : leadtraillaw03_copied.f l = some l := by
  unfold leadtraillaw03_copied.f
  simp only [Option.bind_some, List.length_nil, Nat.zero_add, List.nil_append]
  rw [if_pos (by omega)]
end Go.Proofs.Ytddffjhodiengaa.PO
