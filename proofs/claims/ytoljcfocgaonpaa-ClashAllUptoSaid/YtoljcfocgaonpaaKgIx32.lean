/- Words and walks of this claim, of the text Ix32. -/
import Derived.Test.YtoljcfocgaonpaaKgQW0
import Derived.Test.YtoljcfocgaonpaaKgQW1
import Derived.Test.YtoljcfocgaonpaaKgIx0
import Derived.Test.YtoljcfocgaonpaaKgIx14
import Derived.Test.YtoljcfocgaonpaaKgIx23
import Derived.Test.YtoljcfocgaonpaaKgIx15
import Derived.Test.YtoljcfocgaonpaaKgIx16
import Derived.Test.YtoljcfocgaonpaaKgIx7
import Derived.Test.YtoljcfocgaonpaaKgIx8
namespace Go.Proofs.Ytoljcfocgaonpaa.I
open Go.RowKit Go.Proofs.YtoljcfocgaonpaaW.PrintWords Go.Proofs.YtoljcfocgaonpaaW.PrintLast Go.Proofs.YtoljcfocgaonpaaW.PrintMore
attribute [local go_sem] max2_int min2_int max_two min_two max_three min_three max_four min_four
set_option linter.unusedVariables false
set_option linter.unusedSimpArgs false
def cloneShape.f (l0 : List S47) : Option (List S47) := if l0.length * 32 ≤ 140737488355328 then some l0 else none
theorem cloneShape.row {ad : Addr} {w : World} {ok : Nat → Prop} : ∀ (l0 : List S47) (o : Nat), (∀ j p, l0[j]? = some p → ∃ c : List Value, c.length = 2 ∧ Kd.FK k47 w ok p c ∧ ∀ i u, c[i]? = some u → w.cell? (ad.add ((o + j) * 2 + i)) = some u) →
 ∃ rows : List (List Value), rows.length = l0.length ∧ (∀ (j : Nat) (x : S47) (c : List Value), l0[j]? = some x → rows[j]? = some c → c.length = 2 ∧ Kd.FK k47 w ok x c) ∧ (∀ c ∈ rows, c.length = 2 ∧ ∀ u ∈ c, u.oneCell' = true) ∧ ∀ j u, rows.flatten[j]? = some u → w.cell? (ad.add (o * 2 + j)) = some u
 | [], o, _ => ⟨[], rfl, fun j x c h => (by simp at h), fun c h => (by cases h), fun j u h => (by simp at h)⟩
 | p :: t, o, h => by
  obtain ⟨c, c1, c2, c3⟩ := h 0 p rfl; obtain ⟨rows, q1, q2, q4, q3⟩ := cloneShape.row t (o + 1) (fun j x hj => by
   obtain ⟨c, a1, a2, a3⟩ := h (j + 1) x (by simpa using hj); exact ⟨c, a1, a2, fun i u hu => by have := a3 i u hu; rwa [show o + (j + 1) = o + 1 + j by omega] at this⟩)
  refine ⟨c :: rows, by simp [q1], fun j x c' hx hc => ?_, fun c' hc => ?_, fun j u hu => ?_⟩
  ·cases j with
   | zero =>
    obtain rfl := Option.some.inj hx; obtain rfl := Option.some.inj hc; exact ⟨c1, c2⟩
   | succ j => exact q2 j x c' (by simpa using hx) (by simpa using hc)
  ·rcases List.mem_cons.1 hc with rfl | hc
   ·exact ⟨c1, k47.K_one (Foot.now c2)⟩
   ·exact q4 c' hc
  ·rw [List.flatten_cons] at hu; by_cases hj : j < 2
   ·rw [List.getElem?_append_left (by omega)] at hu; have := c3 j u hu; rwa [show (o + 0) * 2 + j = o * 2 + j by omega] at this
   ·rw [List.getElem?_append_right (by omega), c1] at hu; have := q3 (j - 2) u hu; rwa [show (o + 1) * 2 + (j - 2) = o * 2 + j by omega] at this
theorem cloneShape.chunk : ∀ (rows : List (List Value)), (∀ c ∈ rows, c.length = 2) → ∀ (j : Nat) (c : List Value), rows[j]? = some c → (rows.flatten.drop (j * 2)).take 2 = c
 | [], _, j, c, h => by simp at h
 | d :: rows, hl, 0, c, h => by
  obtain rfl := Option.some.inj h; have := hl d List.mem_cons_self; rw [List.flatten_cons, Nat.zero_mul, List.drop_zero, List.take_append_of_le_length (by omega), List.take_of_length_le (by omega)]
 | d :: rows, hl, j + 1, c, h => by
  have h2 := hl d List.mem_cons_self; have ih := cloneShape.chunk rows (fun c hc => hl c (List.mem_cons_of_mem _ hc)) j c (by simpa using h); rw [List.flatten_cons, show (j + 1) * 2 = d.length + j * 2 by omega, List.drop_append]; simpa [List.drop_of_length_le] using ih
theorem cloneShape.flat (rows : List (List Value)) (h : ∀ c ∈ rows, c.length = 2) : rows.flatten.length = rows.length * 2 := by
 induction rows with
 | nil => rfl
 | cons d rows ih =>
  have h2 := h d List.mem_cons_self; rw [List.flatten_cons, List.length_append, ih (fun c hc => h c (List.mem_cons_of_mem _ hc)), h2, List.length_cons]; omega
set_option maxHeartbeats 4000000 in
set_option maxRecDepth 100000 in
theorem cloneShape.calls (A0 : Option Addr) (c0 : Nat) (l0 r : List S47) (w : World) (hr0 : Kd.C k47 w A0 l0.length l0) (hc0 : l0.length ≤ c0) (h : cloneShape.f l0 = some r) :
 Calls Try.prog 86 #[.slice A0 l0.length c0] w fun e w' => ∃ v, e = .returned v ∧ Kd.N k47 47 w' w.heap.size (fun _ => True) v r ∧ Below w.heap.size w w' := by
 unfold cloneShape.f at h; split at h
 case isFalse => cases h
 case isTrue hbig =>
 obtain rfl := Option.some.inj h; have hrows := Kd.F_rows (Kd.C_F k47_heap hr0); cases A0 with
 | none =>
  have h0 : l0 = [] := by
   rcases Nat.eq_zero_or_pos l0.length with h0 | hp
   ·exact List.eq_nil_of_length_eq_zero h0
   ·obtain ⟨ad, e, _⟩ := hrows.2.2 hp; cases e
  subst h0; refine (AnyE.slices_Clone_nil Try.cloneShapeL 0 c0 w).mono ?_; rintro e w' ⟨rfl, rfl⟩; exact ⟨_, rfl, Kd.N_nil _ _ _ _ _, Below.refl _ _⟩
 | some ad =>
  obtain ⟨rows, q1, q2, q4, q3⟩ := cloneShape.row (ad := ad) (w := w) (ok := fun k => k < w.heap.size) l0 0 (fun j p hj => by
   have hp : 0 < l0.length := Nat.lt_of_le_of_lt (Nat.zero_le _) (List.getElem?_eq_some_iff.1 hj).1; obtain ⟨ad', e, hc⟩ := hrows.2.2 hp; injection e with e
   subst e; obtain ⟨c, a1, a2, a3⟩ := hc j p hj; exact ⟨c, a1, a2, fun i u hu => by rw [Nat.zero_add]; exact a3 i u hu⟩)
  have q3' : Aside0 (∀ j u, rows.flatten[j]? = some u → w.cell? (ad.add j) = some u) := ⟨fun j u hu => by have := q3 j u hu; rwa [Nat.zero_mul, Nat.zero_add] at this⟩; have q5 := zk (fun u (hu : u ∈ rows.flatten) => (show u.oneCell' = true from by
   obtain ⟨c, hc, hu⟩ := List.mem_flatten.1 hu; exact (q4 c hc).2 u hu))
  have hfl := cloneShape.flat rows (fun c hc => (q4 c hc).1); clear q3; have hi := info47; generalize hI : Try.prog.info? 47 = I at hi; cases I with
  | none => cases hi
  | some i0 =>
  simp only [Option.map_some, Option.some.injEq, Prod.mk.injEq] at hi; obtain ⟨hz0, hz1, hz2⟩ := hi; have hl2 : rows.flatten.length = l0.length * 2 := by rw [hfl, q1]
  have key : Calls Try.prog 86 #[.slice (some ad) l0.length c0] w fun e w' => ∃ v', e = .returned v' ∧ w'.ownsRow w.heap.size 47 2 v' l0.length rows.flatten ∧ Below w.heap.size w w' := by
   have hbig' : l0.length * 32 ≤ 140737488355328 := hbig; generalize l0.length = n at hl2 hbig' ⊢; generalize rows.flatten = news at q3' q5 hl2 ⊢; have q22 : ∀ (w : World) (a : Option Addr) (n c n' c' : Nat), (binOp .eql 67 (.slice a n c) (.slice none n' c')).run Try.prog w = .ok (.bool a.isNone) w := fun w a n c n' c' => Lib.run_eql_slice_nil w _ _ a n c n' c' Try.underlying67
   go_enter Try.func86, Try.ntmps86
   go_wp2_with (at_builtin; refine wpList_append_own _ rfl _ _ 67 rfl w.heap.size 47 i0 (.agg #[(.slice none 0 0), (.int .i64 0)]) 2 32 Try.underlying67 hI hz0 hz1 hz2 rfl (by decide) _ _ _ rfl (World.ownsRow_made w #[] 0 (Nat.le_refl _) (Nat.zero_le _) (by simp)) ad n c0 news rfl ?qc1 ?qc2 ?qc3 ?qc4 ?qc5 ?qc6 ?_)
   (try (case qc1 => exact hl2))
   (try (case qc2 => intro j u hj; exact Lib.cell?_alloc_some _ (q3'.out j u hj)))
   (try (case qc3 => exact q5.out))
   (try (case qc4 => (try rw [Nat.zero_add]); exact Nat.le_trans (show n ≤ 4398046511104 by omega) (by decide)))
   (try (case qc5 => (try rw [Nat.zero_add]); exact hbig'))
   (try (case qc6 => simp))
   intro v' w1 hown hgrow hnil; go_wp2
   go_ret
   refine ⟨v', rfl, by simpa using hown, ?_⟩; exact ((Below.refl _ w).alloc (Nat.le_refl _) _).grown hgrow (by simp) (by intro k hk; simp [Value.ownBlock] at hk; omega)
  refine key.mono ?_; rintro e w' ⟨v, rfl, hown, hb⟩; refine ⟨v, rfl, ⟨fun _ _ => trivial, rows, q1, ⟨fun k hk => hk.symm, rows.flatten, by rw [q1]; exact hown, ⟨by rw [hfl]; rfl, fun j c hj => ?_⟩⟩, fun j x c hx hc => ?_⟩, hb⟩
  ·have hc := q4 c (List.mem_of_getElem? hj); have e := cloneShape.chunk rows (fun c hc => (q4 c hc).1) j c hj; rw [show (List.take (Kd.raw k47.sz).sz (List.drop (j * (Kd.raw k47.sz).sz) rows.flatten)) = c from e]; exact ⟨rfl, hc.1, hc.2⟩
  ·have hf := (q2 j x c hx hc).2; refine Kd.FK_mono (Kd.FK_step (Kd.FK_bound hf) (fun k hk hlt => hb.block k hlt)) (fun k hk => ⟨trivial, fun he => ?_⟩); have h1 := own_base hown k he.symm; have h2 := hk.2; omega
def bytes_Compare.f (l0 : List Int) (l1 : List Int) : Option Int := some (Lib.compareBytes (Lib.bytesOf l0) (Lib.bytesOf l1))
theorem bytes_Compare.bytesOf (A0 : Option Addr) (c0 : Nat) (l0 : List Int) (w : World) (h : Kd.C (Kd.int .u8) w A0 l0.length l0) : (Extern.Bytes.bytesOf (.slice A0 l0.length c0)).run Try.prog w = .ok ⟨(Lib.bytesOf l0).toArray⟩ w := by
 obtain ⟨h1, h2, h3⟩ := Kd.reads_of_C (enc := Value.int .u8) (d := (0 : Int)) (h1 := fun _ => rfl) h; have hc : ∀ a, A0 = some a → ∀ j x, l0[j]? = some x → w.cell? (a.add j) = some (.int .u8 x) := fun a ha j x hj => by
  have hjl : j < l0.length := (List.getElem?_eq_some_iff.1 hj).1; obtain ⟨ad, e, hcell⟩ := h3 (by omega); rw [ha] at e; obtain rfl := Option.some.inj e; have := hcell j hjl; rw [this, List.getD_eq_getElem?_getD, hj]; rfl
 clear h h1 h2; cases A0 with
 | none =>
  have e : l0 = [] := by
   cases l0 with
   | nil => rfl
   | cons x t => obtain ⟨ad, e, _⟩ := h3 (by simp); exact absurd e (by simp)
  subst e; rfl
 | some a =>
  have hl := Lib.run_loadBytesX (P := Try.prog) w l0 a .empty (hc a rfl); have he : (⟨ByteArray.empty.data ++ (Lib.bytesOf l0).toArray⟩ : ByteArray) = ⟨(Lib.bytesOf l0).toArray⟩ := by
   apply ByteArray.ext; show (#[] : Array UInt8) ++ (Lib.bytesOf l0).toArray = (Lib.bytesOf l0).toArray; simp
  rw [he] at hl; exact hl
theorem bytes_Compare.run (A0 : Option Addr) (c0 : Nat) (l0 : List Int) (A1 : Option Addr) (c1 : Nat) (l1 : List Int) (w : World) (h0 : Kd.C (Kd.int .u8) w A0 l0.length l0) (h1 : Kd.C (Kd.int .u8) w A1 l1.length l1) :
 (Extern.BytealgCompare.compare #[.slice A0 l0.length c0, .slice A1 l1.length c1]).run Try.prog w = .ok (.int .i64 (Lib.compareBytes (Lib.bytesOf l0) (Lib.bytesOf l1))) w := by
 change Sem.run Try.prog (do pure (goInt (Extern.BytealgCompare.cmp (← Extern.Bytes.bytesOf (.slice A0 l0.length c0)) (← Extern.Bytes.bytesOf (.slice A1 l1.length c1))))) w = _
 simp only [Sem.run_bind, Sem.run_pure, bytes_Compare.bytesOf A0 c0 l0 w h0, bytes_Compare.bytesOf A1 c1 l1 w h1, Result.andThen]; rw [Lib.cmp_eq]; rfl
set_option maxHeartbeats 1000000 in
set_option maxRecDepth 100000 in
theorem bytes_Compare.calls (A0 : Option Addr) (c0 : Nat) (l0 : List Int) (A1 : Option Addr) (c1 : Nat) (l1 : List Int) (r : Int) (w : World) (hr0 : Kd.C (Kd.int .u8) w A0 l0.length l0) (hc0 : l0.length ≤ c0) (hr1 : Kd.C (Kd.int .u8) w A1 l1.length l1) (hc1 : l1.length ≤ c1) (h : bytes_Compare.f l0 l1 = some r) :
 Calls Try.prog 90 #[.slice A0 l0.length c0, .slice A1 l1.length c1] w fun e w' => e = .returned (.int .i64 r) ∧ Below w.heap.size w w' := by
 obtain rfl := Option.some.inj h; have hrun := bytes_Compare.run A0 c0 l0 A1 c1 l1 w hr0 hr1; clear hr0 hr1 h; go_enter Try.func90, Try.ntmps90
 go_wp2
 rw [run_callFunc_extern Try.func127 zz zz zz (e := Extern.BytealgCompare.compare) zz, hrun]; simp only [Result.andThen]; rw [Oper.upon_value]; go_wp2
 go_ret
 exact ⟨rfl, Below.refl _ _⟩
end Go.Proofs.Ytoljcfocgaonpaa.I
