/- OrderSorted: the row: whatever the arguments, the call returns true, and each argument reads as it did. Conditions: none but the row's own reach. -/
import Derived.Test.YtobhclnenffkgaaGreatRows
import Derived.Test.YtobhclnenffkgaaGreatKaBx20
import Derived.Test.YtobhclnenffkgaaGreatKaQP1
import Derived.Test.YtobhclnenffkgaaGreatKaQW1
import Derived.WalkKit
import Derived.JoinedCond
import Derived.Deep.CondSized
import Derived.Deep.Slices
import Derived.ProofKit
import Derived.OpenShut
import Derived.ShutString
import Derived.ChangeOld
import Derived.Below
import Derived.SizedLaws
import Derived.KernelRfl
namespace Go.Proofs.YtobhclnenffkgaaGreat.ROrderSorted
open Go.ChangeShapes Go.WideShapes Go.ChangeAt Go.RowKit
open Go.ChangeMaps (open_string shut_string)
open Go.Proofs.YtobhclnenffkgaaGreatW.PrintWords Go.Proofs.YtobhclnenffkgaaGreat.B
set_option linter.unusedVariables false
structure S24 where
  f0 : List S48
def k24 : Kd S24 := Kd.iso (Kd.slice 48 k48) (fun x : S24 => x.f0)
theorem k24_open {w : World} {x : S24} {cs : List Value} (h : k24.K w x cs) : ∃ A0 c0, cs = [.slice A0 x.f0.length c0] ∧ x.f0.length ≤ c0 ∧ k48.C w A0 x.f0.length x.f0 := by
  obtain ⟨A, c, rfl, h1, h2⟩ := h
  exact ⟨A, c, rfl, h1, h2⟩
instance inh69 : Inhabited S69 := ⟨⟨default, default⟩⟩
instance inh48 : Inhabited S48 := ⟨⟨default, default⟩⟩
instance inh24 : Inhabited S24 := ⟨⟨default⟩⟩
theorem own : ownKnob Tryz.prog.godebug = none := by kernel_rfl
theorem laidOut : laidOutB Tryz.prog = true := by kernel_rfl
theorem bulk_one {H : Type} : ∀ d : DataW H, 1 ≤ Rows.uptoBulk d
  | .lit l => by cases l <;> simp [Rows.uptoBulk]
  | .nil => by simp [Rows.uptoBulk]
  | .ptr d => by simp [Rows.uptoBulk]
  | .slice e s => by simp [Rows.uptoBulk]
  | .agg p => by simp [Rows.uptoBulk]
  | .iface _ d => by simp [Rows.uptoBulk]
  | .map e => by simp [Rows.uptoBulk]
  | .held _ => by simp [Rows.uptoBulk]
theorem bulk_len {H : Type} : ∀ l : List (DataW H), l.length ≤ Rows.uptoBulkAll l
  | [] => by simp [Rows.uptoBulkAll]
  | d :: r => by have := bulk_len r; have := bulk_one d; simp only [Rows.uptoBulkAll, List.length_cons]; omega
theorem bulk_mem {H : Type} {d : DataW H} : ∀ {l : List (DataW H)}, d ∈ l → Rows.uptoBulk d ≤ Rows.uptoBulkAll l
  | d0 :: r, h => by
    simp only [Rows.uptoBulkAll]
    rcases List.mem_cons.1 h with rfl | h
    · omega
    · have := bulk_mem h; omega
theorem bulk_slice {P : Program} {t e : TypeId} {H : Type} {enc : TypeId × Value → H} {w : World} {spare : Nat → Bool} {held : Bool} {A : Option Addr} {n c : Nat} {d : DataW H} {p : List MemPlace} (ht : P.underlying t = some (.slice e)) (h : DataW.Trod enc P w 0 spare held t (.slice A n c) d p) : n ≤ Rows.uptoBulk d := by
  obtain ⟨fuel, hf⟩ := h
  rcases Go.Deep.open_slice ht hf with ⟨h1, _⟩ | ⟨a, len, cap, m, n', D, Pl, h1, _, _, _, _, h2, _⟩
  · simp [Value.cells] at h1
    omega
  · simp [Value.cells] at h1
    have e : n = len := by omega
    have h3 : d = .slice ((List.range len).map D) ((List.range (m - len)).map fun j => D (len + j)) := by first | exact congrArg Prod.fst h2 | exact (Prod.mk.inj h2).1 | simpa using congrArg Prod.fst h2
    rw [h3, e]
    have := bulk_len ((List.range len).map D)
    simp only [List.length_map, List.length_range] at this
    simp only [Rows.uptoBulk]
    omega
set_option maxRecDepth 100000 in
theorem lifted (os : Os) (started : os.Started) (H : Type) (enc : TypeId × Value → H) (F : Stop.Interp) :
    ReturnsInHanded {} Tryz.checked os 3 .any ((Rows.OpenSpec.upto Rows.orderSortedSpec).pre6 enc Tryz.prog Tryz.f3 Rows.orderSortedUptoRow.domain false) (((Rows.OpenSpec.upto Rows.orderSortedSpec).at F).post enc Tryz.prog Tryz.f3 false true false false) := by
  refine returnsInHanded_of_cond_sized (C := Tryz.checked) (s := (Rows.OpenSpec.upto Rows.orderSortedSpec)) rfl (F := F) own started (by kernel_rfl) Tryz.func3
    (OpenSpec.witness (enc := enc) (C := Tryz.checked) (s := (Rows.OpenSpec.upto Rows.orderSortedSpec)) rfl false ⟨#[], #[.agg #[.slice none 0 0], .slice none 0 0], []⟩ 8 (by kernel_rfl) (by kernel_rfl) (by kernel_rfl) rfl (by kernel_rfl) (by kernel_rfl) (by kernel_rfl)) ?_
  intro W base args ds gs before hval0 hW hcnd hkk hsz0 _
  have hsz : (DataW.weightsEach Tryz.prog (Tryz.f3.params.toList ++ Rows.orderSortedSpec.plain.varTypes Tryz.prog) (ds ++ gs)).all (· ≤ reachBytes) = true := hsz0
  have hval : ∀ (j : Nat) t v, Tryz.f3.params[j]? = some t → args[j]? = some v → Value.okWide Tryz.prog W .any base t v := hval0
  have hW' := hW
  obtain ⟨p, q, hA0, hV, rfl, hfz, hnd⟩ := hW
  have hA : DataW.TrodAll enc Tryz.prog W 0 (fun _ => true) true Tryz.f3.params.toList args.toList ds p := hA0
  rw [Tryz.params3] at hA hval hsz
  obtain ⟨v0, vs0, d0, ds0, p0, q0, hargs, rfl, rfl, h0, r0⟩ := trodAll_cons hA
  obtain ⟨v1, vs1, d1, ds1, p1, q1, rfl, rfl, rfl, h1, r1⟩ := trodAll_cons r0
  obtain ⟨rfl, rfl, rfl⟩ := trodAll_nil r1
  obtain rfl : args = #[v0, v1] := by cases args; simp_all
  obtain ⟨rfl, rfl⟩ := trodVars_none hV
  have k0_ := h0
  have lt0 : ∀ x ∈ p0, x.block < W.heap.size := by obtain ⟨m, hm⟩ := k0_; exact DataW.trod_lt m _ _ _ hm
  obtain ⟨y0, cs0, rfl, hK0, hq0⟩ := Opens.arg_struct (K := k24) (Opens.opens_struct1 (fun x : S24 => x.f0) (fun a => ⟨a⟩) (fun _ => rfl) Tryz.underlying24 (Opens.opens_slice (B := 32) Tryz.underlying22 (by kernel_rfl) (by kernel_rfl) (Opens.opens_struct2 (fun x : S48 => (x.f0, x.f1)) (fun a b => ⟨a, b⟩) (fun _ _ => rfl) Tryz.underlying48 (Opens.opens_slice (B := 24) Tryz.underlying46 (by kernel_rfl) (by kernel_rfl) (Opens.opens_slice (B := 16) Tryz.underlying70 (by kernel_rfl) (by kernel_rfl) (Opens.opens_struct2 (fun x : S69 => (x.f0, x.f1)) (fun a b => ⟨a, b⟩) (fun _ _ => rfl) Tryz.underlying69 (Opens.opens_int (k := .i64) Tryz.underlying3 (by kernel_rfl)) (Opens.opens_int (k := .i64) Tryz.underlying3 (by kernel_rfl)) (by kernel_rfl) rfl rfl))) (Opens.opens_int (k := .i64) Tryz.underlying3 (by kernel_rfl)) (by kernel_rfl) rfl rfl)) (by kernel_rfl) rfl) Tryz.underlying24 (hval 0 24 v0 rfl rfl) h0 hsz (j := 0) rfl rfl
  obtain ⟨A0_0, c0_0, rfl, hc0_0, hr0_0⟩ := k24_open hK0
  have k1_ := h1
  have lt1 : ∀ x ∈ p1, x.block < W.heap.size := by obtain ⟨m, hm⟩ := k1_; exact DataW.trod_lt m _ _ _ hm
  obtain ⟨A1, c1, l1, rfl, hc1, hr1, hq1⟩ := Opens.arg_slice (K := (Kd.int .i64)) (Opens.opens_slice (B := 8) Tryz.underlying25 (by kernel_rfl) (by kernel_rfl) (Opens.opens_int (k := .i64) Tryz.underlying3 (by kernel_rfl))) Tryz.underlying25 (hval 1 25 v1 rfl rfl) h1 hsz (j := 1) rfl rfl
  have hbulk : Rows.uptoBulkAll [d0, d1] ≤ 1048576 := by
    have h_ : Rows.uptoSmall H ([d0, d1] ++ []) = true := hkk
    simpa [Rows.uptoSmall] using h_
  have hb1 : l1.length ≤ 1048576 := Nat.le_trans (bulk_slice Tryz.underlying25 h1) (Nat.le_trans (bulk_mem (d := d1) (by simp)) hbulk)
  clear hkk hbulk
  clear hA0 hval0 hsz0 hsz
  obtain ⟨k, hf⟩ := Pure.OrderSorted y0.f0 l1 hq0 hq1 hb1
  refine (leadtraillaw12_OrderSorted.calls k A0_0 c0_0 y0.f0 A1 c1 l1 true W hr0_0 hc0_0 hr1 hc1 hf).mono fun e W' ⟨he, bel⟩ => ?_
  subst he
  exact ⟨_, rfl, _, _, _, [], _, [], hW', trodAll_mk1 (shut_bool Tryz.underlying4 _), (trodAll_cons_mk (Below.trod laidOut (by kernel_rfl) (of_decide_eq_true (by kernel_rfl)) k0_ bel lt0) (trodAll_cons_mk (Below.trod laidOut (by kernel_rfl) (of_decide_eq_true (by kernel_rfl)) k1_ bel lt1) trodAll_mk0)), rfl, bel.frame _, fun h => by cases h⟩
theorem over : Rows.orderSortedUptoRow.holds Tryz.pinned (Rows.OpenSpec.upto Rows.orderSortedSpec) :=
  OpenClaim.holds_of_cond 3 Tryz.f3 rfl rfl rfl rfl rfl rfl rfl ⟨rfl, rfl, rfl, rfl, rfl⟩ rfl rfl rfl rfl rfl (by kernel_rfl) Tryz.func3 (by kernel_rfl)
    (of_decide_eq_true (by kernel_rfl)) (by unfold Func.isWrapper; first | (rw [if_pos (by decide +kernel)]; kernel_rfl) | (rw [if_neg (by decide +kernel)]; exact ⟨rfl, rfl⟩))
    (fun os started H enc _ F => lifted os started H enc F)
end Go.Proofs.YtobhclnenffkgaaGreat.ROrderSorted
namespace Go.Proofs.YtobhclnenffkgaaGreat
theorem orderSorted_holds : Rows.OrderSortedUptoSaid := ROrderSorted.over
#print axioms orderSorted_holds
end Go.Proofs.YtobhclnenffkgaaGreat
