/- Words and laws of this claim, of 1 texts. -/
import Derived.Test.YtoljcfocgaonpaaKcIx16
import Derived.Test.YtoljcfocgaonpaaKcIx17
import Derived.Test.YtoljcfocgaonpaaKcIx18
import Derived.Test.YtoljcfocgaonpaaKcIx19
import Derived.Test.YtoljcfocgaonpaaKcIx20
import Derived.Test.YtoljcfocgaonpaaKcIx21
import Derived.Test.YtoljcfocgaonpaaKcIx7
import Derived.RangeFuncNested
import Derived.RangeFuncBound
import Derived.RangeFuncCalls
import Derived.RangeFuncLeaves
import Derived.Shelf.Abstract
import Derived.Shelf.RegionOpen
import Derived.WalkKit
import Derived.OwnWalkIn
import Derived.TacticsInMore
import Derived.LoopNIn
import Derived.LoopIn
section
namespace Go.Proofs.Ytoljcfocgaonpaa.I
open Go.RowKit Go.Shelf Go.Proofs.YtoljcfocgaonpaaW.PrintWords Go.Proofs.YtoljcfocgaonpaaW.PrintLast Go.Proofs.YtoljcfocgaonpaaW.PrintMore
set_option linter.unusedVariables false
set_option linter.unusedSimpArgs false
theorem max2_m (k k' : IntKind) (x y : Int) : Builtin.max2 (.int k x) (.int k' y) = pure (.int k (max x y)) := by rw [max2_int, show (if x < y then y else x) = max x y by split <;> omega]
theorem min2_m (k k' : IntKind) (x y : Int) : Builtin.min2 (.int k x) (.int k' y) = pure (.int k (min x y)) := by rw [min2_int, show (if y < x then y else x) = min x y by split <;> omega]
theorem leaves_marks {F : Fence} {n : Nat} {P : Program} {fn : Func} {tmps : Array Value} {R : Ending → World → Prop} {D0 : Nat} {X : World → Prop} (hX : ∀ W D, X W → D0 ≤ D → W.heap[D]? = some (.deferred (some [])) → X (W.putObj D (.deferred none))) (hE : ∀ W, X W → LeavesInM F n P fn tmps R [] .returning W) :
    ∀ (Ds : List Nat) (W : World), Ds.Nodup → (∀ D ∈ Ds, D0 ≤ D ∧ W.heap[D]? = some (.deferred (some []))) → X W → LeavesInM F n P fn tmps R (Ds.map fun D => { target := .collected D, args := #[] }) .returning W
  | [], W, _, _, hx => hE W hx
  | D :: Ds, W, hn, hd, hx => by
    obtain ⟨d0, d1⟩ := hd D (List.mem_cons_self)
    obtain ⟨n1, n2⟩ := List.nodup_cons.1 hn
    refine ⟨by simp, .inl ⟨D, _, rfl, run_takeDeferred d1, leaves_marks hX hE Ds _ n2 (fun D' h' => ?_) (hX W D hx d0 d1)⟩⟩
    obtain ⟨e0, e1⟩ := hd D' (List.mem_cons_of_mem _ h')
    exact ⟨e0, ((grownBy_putObj' W D _).block D' (Array.getElem?_eq_some_iff.1 e1).1 (fun e => by cases e; exact n1 h')).trans e1⟩
theorem blk_set {W : World} {b : Nat} {u : Value} {t : TypeId} (h : W.heap[b]? = some (.cells #[u] t (0, 0))) (v : Value) : (W.setCell ⟨b, 0, none⟩ v).heap[b]? = some (.cells #[v] t (0, 0)) := by
  simp [World.setCell, Array.getElem?_modify, h]
theorem blk_set_far {W : World} {b c : Nat} {o : Obj} (h : W.heap[c]? = some o) (hne : c ≠ b) (v : Value) : (W.setCell ⟨b, 0, none⟩ v).heap[c]? = some o := (Below.heap_setCell W ⟨b, 0, none⟩ v c hne).trans h
theorem KeepsFrom.of_b {B : Nat} {W W' : World} (h : Below W.heap.size W W') : KeepsFrom B W W' := ⟨h.size, fun k o _ hk _ => (h.block k (Array.getElem?_eq_some_iff.1 hk).1).trans hk⟩
structure GrownG (G : Nat → Prop) (W W' : World) : Prop where
  os : W'.os = W.os
  tape : W'.tape = W.tape
  output : W'.output = W.output
  size : W.heap.size ≤ W'.heap.size
  block : ∀ k, k < W.heap.size → ¬ G k → W'.heap[k]? = W.heap[k]?
theorem GrownG.of_below {G : Nat → Prop} {W W' : World} (h : Below W.heap.size W W') : GrownG G W W' := ⟨h.os, h.tape, h.output, h.size, fun k hk _ => h.block k hk⟩
theorem GrownG.below {G : Nat → Prop} {B : Nat} {w W W' : World} (h : Below B w W) (hg : GrownG G W W') (hG : ∀ k, G k → B ≤ k) (hB : B ≤ W.heap.size) : Below B w W' :=
  ⟨hg.os.trans h.os, hg.tape.trans h.tape, hg.output.trans h.output, Nat.le_trans h.size hg.size, fun k hk => (hg.block k (by omega) (fun hgk => by have := hG k hgk; omega)).trans (h.block k hk)⟩
def AbidesG {α : Type} (B : Nat) (J : (Nat → Prop) → List α → World → Prop) : Prop :=
  ∀ (G G' : Nat → Prop) (pre : List α) (W W' : World), J G pre W → (∀ k, G k → B ≤ k) → GrownG G W W' → (∀ k, G' k → G k ∨ W.heap.size ≤ k) → J G' pre W'
def SeqG {α : Type} (F : Fence) (n : Nat) (P : Program) (g : Nat) (lb : Array Value) (encs : α → Array Value) (Rd : List α → α → World → Prop) (Kp : World → World → Prop) (S Sp : List α → Prop) (w : World) : Prop :=
  ∀ (l : Nat) (J Jx : (Nat → Prop) → List α → World → Prop) (W : World), Below w.heap.size w W → AbidesG W.heap.size J → AbidesG W.heap.size Jx → J (fun _ => False) [] W →
    (∀ G pre x W1, (∀ k, G k → W.heap.size ≤ k ∧ k < W1.heap.size) → J G pre W1 → Rd pre x W1 → YieldAt F (n - 1) P l (encs x) W1 fun e W' => (e = .returned (.bool true) ∧ J G (pre ++ [x]) W' ∧ Kp W1 W' ∧ ∀ k, G k → W'.heap[k]? = W1.heap[k]?) ∨ (e = .returned (.bool false) ∧ Jx G (pre ++ [x]) W')) →
    CallsIn F n P g (#[.func (.yield l) #[] #[]] ++ lb) W fun e W' => (∃ v, e = .returned v) ∧ ∃ G : Nat → Prop, (∀ k, G k → W.heap.size ≤ k) ∧ ((∃ xs, S xs ∧ J G xs W') ∨ (∃ pre, Sp pre ∧ Jx G pre W'))
theorem AbidesG.putObj {α : Type} {B : Nat} {J : (Nat → Prop) → List α → World → Prop} (h : ∀ (G : Nat → Prop) (pre : List α) (W : World) (l : Nat) (o o' : Obj), J G pre W → B ≤ l → W.heap[l]? = some o → o.isCells = false → J G pre (W.putObj l o')) {G : Nat → Prop} {pre : List α} {W : World} {l : Nat} {o : Obj} (o' : Obj) (hs : J G pre W) (hB : B ≤ l) (hl : W.heap[l]? = some o) (ho : o.isCells = false) : J G pre (W.putObj l o') := h G pre W l o o' hs hB hl ho
def lp (fn : FuncId) (t : Array Value) (ps : Array Tmp) (assign body : Code) (D : Nat) (st : LoopState) (pe : Option Code) : Loop := { state := st, pending := pe, fn := fn, tmps := t, params := ps, assign := assign, body := body, defers := D }
def LaidLoop (W : World) (B : Nat) (r : Loop) : Prop := W.heap[B + 1]? = some (.loop r) ∧ W.heap[B]? = some (.deferred (some []))
theorem LaidLoop.stay {W W' : World} {B : Nat} {r : Loop} (h : LaidLoop W B r) (hs : ∀ k, k < B + 2 → k < W.heap.size → W'.heap[k]? = W.heap[k]?) : LaidLoop W' B r :=
  ⟨(hs (B + 1) (by omega) (Array.getElem?_eq_some_iff.1 h.1).1).trans h.1, (hs B (by omega) (Array.getElem?_eq_some_iff.1 h.2).1).trans h.2⟩
theorem LaidLoop.put {W : World} {B : Nat} {r : Loop} (h : LaidLoop W B r) (r' : Loop) : LaidLoop (W.putObj (B + 1) (.loop r')) B r' :=
  ⟨World.putObj_heap_same (Array.getElem?_eq_some_iff.1 h.1).1, (World.putObj_heap_other (by omega)).trans h.2⟩
theorem LaidLoop.kept {W W' : World} {B : Nat} {r : Loop} (h : LaidLoop W B r) (hf : KeepsFrom B W W') : LaidLoop W' B r :=
  ⟨hf.same _ _ (by omega) h.1 rfl, hf.same _ _ (Nat.le_refl _) h.2 rfl⟩
theorem wpIn_rangeFunc_told {F : Fence} {n : Nat} {P : Program} {α : Type} {g : Operand} {ps : Array Tmp} {assign body : Code} {Q : Exit → Act → World → Prop} {a : Act} {w : World}
    (hro : F.round = none) (h1 : 1 ≤ n) {gf : Nat} {lb : Array Value} (hg : a.eval g = .func (.func gf) #[] lb) (hFg : F.fn gf) (eg : ∀ args w, (callFunc gf args).run P w = .ok (.enter gf args) w)
    {encs : α → Array Value} {Rd : List α → α → World → Prop} {Kp : World → World → Prop} {S Sp : List α → Prop} {w0 : World} (hseq : SeqG F (n - 1) P gf lb encs Rd Kp S Sp w0)
    (hKt : ∀ {A B C : World}, Kp A B → Kp B C → Kp A C) (hKb : ∀ (W : World) (l : Nat) (o o' : Obj), w.heap.size ≤ l → W.heap[l]? = some o → o.isCells = false → o.isWalk = false → Kp W (W.putObj l o')) (hb0 : Below w0.heap.size w0 w) (hps : ∀ x, (encs x).size = ps.size)
    (I : (Nat → Prop) → List α → World → Prop) (Ix : Code → (Nat → Prop) → List α → World → Prop) (hI : ∀ B, w.heap.size ≤ B → AbidesG B I) (hIx : ∀ c B, w.heap.size ≤ B → AbidesG B (Ix c))
    (hIp : ∀ (G : Nat → Prop) (pre : List α) (W : World) (l : Nat) (o o' : Obj), I G pre W → w.heap.size ≤ l → W.heap[l]? = some o → o.isCells = false → I G pre (W.putObj l o')) (hIxp : ∀ (c : Code) (G : Nat → Prop) (pre : List α) (W : World) (l : Nat) (o o' : Obj), Ix c G pre W → w.heap.size ≤ l → W.heap[l]? = some o → o.isCells = false → Ix c G pre (W.putObj l o'))
    (h0 : I (fun _ => False) [] w) (Ax : List α → α → Act → World → Prop) (hAx : ∀ pre x a', OwnFrom w.heap.size (fun (_ : Unit) W => Ax pre x a' W))
    (hassign : ∀ (l : Nat) (G : Nat → Prop) (pre : List α) (x : α) (W : World) (K : Act → World → Prop), (∀ k, G k → w.heap.size ≤ k ∧ k < W.heap.size) → I G pre W → Rd pre x W → (∀ a' W', KeepsFrom w.heap.size W W' → Kp W W' → (∀ k, G k → W'.heap[k]? = W.heap[k]?) → I G pre W' → Ax pre x a' W' → K a' W') →
      assign.wpIn (F.inRound l) (n - 1 - 1) P (Exit.then K (fun _ _ _ => False)) { tmps := (ps.zip (encs x)).foldl (fun t (p, v) => t.setIfInBounds p v) a.tmps, defers := [] } W)
    (hbody : ∀ (l : Nat) (G : Nat → Prop) (pre : List α) (x : α) (a' : Act) (W : World), (∀ k, G k → w.heap.size ≤ k ∧ k < W.heap.size) → I G pre W → Ax pre x a' W → body.wpIn (F.inRound l) (n - 1 - 1) P (ownPostG w.heap.size (fun A B => Kp A B ∧ ∀ k, G k → B.heap[k]? = A.heap[k]?) (I G) (fun c => Ix c G) (pre ++ [x]) W) a' W)
    (hdone : ∀ (D : Nat) (G : Nat → Prop) (xs : List α) (W : World), w.heap.size ≤ D → S xs → I G xs W → W.heap[D]? = some (.deferred (some [])) → Q .normal { a with defers := { target := .collected D, args := #[] } :: a.defers } W)
    (hstop : ∀ (D : Nat) (c : Code) (G : Nat → Prop) (pre : List α) (W : World), w.heap.size ≤ D → Sp pre → Ix c G pre W → W.heap[D]? = some (.deferred (some [])) → c.wpIn F n P Q { a with defers := { target := .collected D, args := #[] } :: a.defers } W) :
    (Code.rangeFunc g ps assign body).wpIn F n P Q a w := by
  refine wpIn_rangeFunc fun fn hfn => ?_
  rw [hro]
  let r := lp fn a.tmps ps assign body w.heap.size
  have laid : LaidLoop ((w.alloc (.deferred (some []))).alloc (.loop (r .ready none))) w.heap.size (r .ready none) := by
    constructor
    · have := World.alloc_heap_new (w.alloc (.deferred (some []))) (.loop (r .ready none)); rwa [World.size_alloc] at this
    · exact (Below.heap_alloc _ _ _ (by simp)).trans (World.alloc_heap_new w _)
  have inv : I (fun _ => False) [] ((w.alloc (.deferred (some []))).alloc (.loop (r .ready none))) := hI w.heap.size (Nat.le_refl _) (fun _ => False) _ [] w _ h0 (fun _ h => h.elim) (GrownG.of_below (((Below.refl _ w).alloc (Nat.le_refl _) _).alloc (by simp) _)) (fun _ h => h.elim)
  have low : Below w0.heap.size w0 ((w.alloc (.deferred (some []))).alloc (.loop (r .ready none))) := hb0.trans ((((Below.refl _ w).alloc (Nat.le_refl _) _).alloc (by simp) _).mono hb0.size)
  have size : ((w.alloc (.deferred (some []))).alloc (.loop (r .ready none))).heap.size = w.heap.size + 2 := by simp
  have enter := run_enterLoop_outer (P := P) (w := w) fn a.tmps ps assign body
  generalize hW1 : (w.alloc (.deferred (some []))).alloc (.loop (r .ready none)) = W1 at laid inv low size
  have enter' : (Instr.enterLoop fn a.tmps ps assign body none).run P w = .ok (w.heap.size + 1, [{ target := .collected w.heap.size, args := #[] }]) W1 := by rw [← hW1]; exact enter
  refine ⟨w.heap.size + 1, [{ target := .collected w.heap.size, args := #[] }], W1, { target := .fn (.func gf) lb, args := #[.func (.yield (w.heap.size + 1)) #[] #[]] }, W1, gf,
    #[.func (.yield (w.heap.size + 1)) #[] #[]] ++ lb, W1, enter', ?_, ?_, ?_, fun _ => h1, ?_⟩
  · simp only [resolve, hg]
    simp [go_sem]
  · intro f' hf'
    simp [Target.leads] at hf'
    subst hf'
    exact hFg
  · simp [invoke, go_sem, eg]
  have far : ∀ {G : Nat → Prop} {A B : World}, (∀ k, G k → W1.heap.size ≤ k) → (∀ k, k < A.heap.size → ¬ G k → B.heap[k]? = A.heap[k]?) → ∀ k, k < w.heap.size + 2 → k < A.heap.size → B.heap[k]? = A.heap[k]? := fun hG hs k hk hA => hs k hA (fun h => by have := hG k h; omega)
  refine (hseq (w.heap.size + 1) (fun G pre W => I G pre W ∧ LaidLoop W w.heap.size (r .ready none)) (fun G pre W => ∃ c, Ix c G pre W ∧ LaidLoop W w.heap.size (r .done (some c))) W1 low ?_ ?_ ⟨inv, laid⟩ ?_).mono ?_
  · exact fun G G' s A B hs hG hg hG' => ⟨hI W1.heap.size (by omega) G G' s A B hs.1 hG hg hG', hs.2.stay (far hG hg.block)⟩
  · rintro G G' s A B ⟨c, hc, hl⟩ hG hg hG'
    exact ⟨c, hIx c W1.heap.size (by omega) G G' s A B hc hG hg hG', hl.stay (far hG hg.block)⟩
  · rintro G pre x W hGr ⟨hi, hl⟩ hrd
    have hy : (Instr.yield (w.heap.size + 1) (encs x)).run P W = .ok (.round (w.heap.size + 1) fn _ assign body) W := run_yield hl.1 (hps x)
    refine ⟨fn, _, assign, body, hy, roundIn_of_wpIn hfn (hassign _ G pre x W _ (fun k h => by have := hGr k h; omega) hi hrd fun a' V hkf hkv hgv hiv hax => ?_)⟩
    have hlv := hl.kept hkf
    have begins : (Instr.beginRound (w.heap.size + 1)).run P V = .ok () (V.putObj (w.heap.size + 1) (.loop (r .busy none))) := run_beginRound hlv.1 rfl
    refine ⟨_, begins, ?_⟩
    have busy := hlv.put (r .busy none)
    have kp : Kp W (V.putObj (w.heap.size + 1) (.loop (r .busy none))) := hKt hkv (hKb _ _ _ _ (by omega) hlv.1 rfl rfl)
    have gput : ∀ (X : World) (o : Obj) k, G k → (X.putObj (w.heap.size + 1) o).heap[k]? = X.heap[k]? := fun X o k h => World.putObj_heap_other (by have := hGr k h; omega)
    refine wpIn_mono (hbody _ G pre x a' _ (fun k h => by have := hGr k h; have := hkf.size; simp [World.putObj]; omega) (hIp G pre _ _ _ _ hiv (by omega) hlv.1 rfl) ((hAx pre x a').putObj (s := ()) _ hax (by omega) hlv.1 rfl)) ?_
    have ends : ∀ (c : Code) (W3 : World), LaidLoop W3 w.heap.size (r .busy none) → (Instr.endRound (w.heap.size + 1) (some c)).run P W3 = .ok (.bool false) (W3.putObj (w.heap.size + 1) (.loop (r .done (some c)))) := fun c W3 h => run_endRound (some c) h.1
    have left : ∀ (c : Code) (W3 : World), KeepsFrom w.heap.size (V.putObj (w.heap.size + 1) (.loop (r .busy none))) W3 → Ix c G (pre ++ [x]) W3 → ∃ v W', (Instr.endRound (w.heap.size + 1) (some c)).run P W3 = .ok v W' ∧
        ((Ending.returned v = .returned (.bool true) ∧ (I G (pre ++ [x]) W' ∧ LaidLoop W' w.heap.size (r .ready none)) ∧ Kp W W' ∧ ∀ k, G k → W'.heap[k]? = W.heap[k]?) ∨ (Ending.returned v = .returned (.bool false) ∧ ∃ c, Ix c G (pre ++ [x]) W' ∧ LaidLoop W' w.heap.size (r .done (some c)))) := fun c W3 hk hx =>
      ⟨_, _, ends c W3 (busy.kept hk), .inr ⟨rfl, c, hIxp c G _ _ _ _ _ hx (by omega) (busy.kept hk).1 rfl, (busy.kept hk).put _⟩⟩
    intro e a3 W3 hp
    match e, hp with
    | .normal, ⟨hk, ⟨hkp, hgp⟩, hi3⟩ =>
      have h3 := busy.kept hk
      have back : (Instr.endRound (w.heap.size + 1) none).run P W3 = .ok (.bool true) (W3.putObj (w.heap.size + 1) (.loop (r .ready none))) := run_endRound none h3.1
      exact ⟨_, _, back, .inl ⟨rfl, ⟨hIp G _ _ _ _ _ hi3 (by omega) h3.1 rfl, h3.put _⟩, hKt (hKt kp hkp) (hKb _ _ _ _ (by omega) h3.1 rfl rfl), fun k h => (gput _ _ k h).trans ((hgp k h).trans ((gput _ _ k h).trans (hgv k h)))⟩⟩
    | .ret, hp => exact left .ret W3 hp.1 hp.2
    | .exit id, hp => exact left (.exit id) W3 hp.1 hp.2
    | .goto t, hp => exact left (.goto t) W3 hp.1 hp.2
    | .panic _, hp => exact hp.elim
    | .outgrown, hp => exact hp.elim
  · rintro e W2 ⟨⟨v, rfl⟩, G, hGr, (⟨xs, hS, hi, hl⟩ | ⟨pre, hSp, c, hi, hl⟩)⟩
    · have ends : (Instr.endLoop (w.heap.size + 1)).run P W2 = .ok none (W2.putObj (w.heap.size + 1) (.loop (r .exhausted none))) := run_endLoop hl.1 (by simp [r, lp])
      exact ⟨none, _, ends, hdone _ G xs _ (Nat.le_refl _) hS (hIp G _ _ _ _ _ hi (by omega) hl.1 rfl) (hl.put _).2⟩
    · have ends : (Instr.endLoop (w.heap.size + 1)).run P W2 = .ok (some c) (W2.putObj (w.heap.size + 1) (.loop (r .exhausted (some c)))) := run_endLoop hl.1 (by simp [r, lp])
      exact ⟨some c, _, ends, hstop _ c G pre _ (Nat.le_refl _) hSp (hIxp c G _ _ _ _ _ hi (by omega) hl.1 rfl) (hl.put _).2⟩
def nextF (ps : List (List S34)) : Nat → List Int → Bool × List Int
  | 0, at_ => (false, at_)
  | n + 1, at_ => if wrap64 (at_.getD n 0 + 1) < ((ps.getD n []).length : Int) then (true, at_.set n (wrap64 (at_.getD n 0 + 1))) else nextF ps n (at_.set n 0)
def intsOf (l : List Int) : Array Value := (l.map (Value.int .i64)).toArray
theorem intsOf_set (l : List Int) (i : Nat) (v : Int) : (intsOf l).setIfInBounds i (.int .i64 v) = intsOf (l.set i v) := by
  unfold intsOf
  rw [List.setIfInBounds_toArray, List.map_set]
theorem intsOf_get (l : List Int) (i : Nat) (h : i < l.length) : (intsOf l)[i]? = some (.int .i64 (l.getD i 0)) := by
  unfold intsOf
  simp [List.getD, h]
attribute [local irreducible] intsOf
set_option maxRecDepth 100000 in
set_option maxHeartbeats 4000000 in
theorem shape_nextG.calls (A : Option Addr) (c : Nat) (ps : List (List S34)) (first : Int) (ga : Nat) (at_ : List Int) (w0 w : World) (hC : Kd.C (Kd.slice 34 k34) w0 A ps.length ps) (hB : Below w0.heap.size w0 w) (hga0 : w0.heap.size ≤ ga) (hl : at_.length = ps.length) (hlen : ps.length ≤ 4611686018427387904)
    (hga : w.heap[ga]? = some (.cells (intsOf at_) 3 (0, 0))) :
    Calls Try.prog 78 #[.agg #[.slice A ps.length c, .int .i64 first], .slice (some ⟨ga, 0, none⟩) at_.length at_.length] w fun e w' => e = .returned (.bool (nextF ps ps.length at_).1) ∧ w'.heap[ga]? = some (.cells (intsOf (nextF ps ps.length at_).2) 3 (0, 0)) ∧ Below w0.heap.size w0 w' ∧ w.heap.size ≤ w'.heap.size ∧ ∀ i, i < w.heap.size → i ≠ ga → w'.heap[i]? = w.heap[i]? := by
  have HC := Aside0.mk hC
  have HB := Aside0.mk hB
  have HG0 := Aside0.mk hga0
  have HL := Aside0.mk hl
  have HN := Aside0.mk hlen
  have HGA := Aside0.mk hga
  have hu47 := Try.underlying47
  generalize hm : at_.length = m
  have HM := Aside0.mk hm
  generalize hres : nextF ps ps.length at_ = res
  have HRES := Aside0.mk hres
  clear hC hB hga0 hl hlen hga hm hres
  have HP := Aside0.mk (blk_new w (.cells #[.slice A ps.length c, .int .i64 first] 47))
  have hw1 : wrap64 ((m : Int) - 1) = (m : Int) - 1 := w64o (by omega) (by have := HM.out; have := HL.out; have := HN.out; omega)
  go_enter Try.func78, Try.ntmps78
  go_wp2
  go_loopg [5] (m + 1) (fun kq v5 w' => ∃ (q : Nat) (a' : List Int), v5 = .int .i64 ((q : Int) - 1) ∧ Aside0 (q + (m + 1 - kq) = m ∧ kq ≤ m + 1 ∧ 1 ≤ kq ∧ a'.length = m) ∧ Aside0 (nextF ps q a' = res) ∧ Aside0 (w'.heap[ga]? = some (.cells (intsOf a') 3 (0, 0))) ∧ Aside0 (w'.heap[w.heap.size]? = some (.cells #[.slice A ps.length c, .int .i64 first] 47 (0, 0))) ∧ Aside0 (Below w0.heap.size w0 w') ∧ Aside0 (w.heap.size + 1 ≤ w'.heap.size ∧ ∀ i, i < w.heap.size → i ≠ ga → w'.heap[i]? = w.heap[i]?))
  case atStart => exact ⟨m, at_, by rw [hw1], ⟨by omega, by omega, by omega, HM.out⟩, ⟨by rw [← HRES.out, ← HL.out, HM.out]⟩, ⟨blk_alloc HGA.out _⟩, HP, ⟨below_alloc HB.out _⟩, ⟨by simp, fun i hi _ => Below.heap_alloc w _ i (by omega)⟩⟩
  case round =>
    clear hw1
    obtain ⟨q, a', rfl, HQ, HF, HA, HPB, HB2, HK⟩ := hrel
    cases gk with
    | zero => exact absurd HQ.out (by omega)
    | succ ko =>
    cases q with
    | zero =>
      have cb : decide ((0 : Int) ≤ ((0 : Nat) : Int) - 1) = false := rfl
      have cb2 : decide (((0 : Nat) : Int) - 1 ≥ 0) = false := rfl
      have hF := HF.out
      have HF2 := Aside0.mk (show (false, a') = res from hF)
      clear hF
      go_wp2
      go_ret
      exact ⟨by rw [← HF2.out]; rfl, by rw [← HF2.out]; exact HA.out, HB2.out, by have := HK.out.1; omega, HK.out.2⟩
    | succ q =>
      have hq := HQ.out
      have hql : q < a'.length := by omega
      have hqp : q < ps.length := by have := HM.out; have := HL.out; omega
      have cb : decide ((0 : Int) ≤ ((q + 1 : Nat) : Int) - 1) = true := decide_eq_true (by omega)
      have e1 : ((q + 1 : Nat) : Int) - 1 = (q : Int) := by omega
      rw [e1] at cb ⊢
      have c1 : decide ((q : Int) ≥ 0) = true := by simp
      have p : (0 ≤ (q : Int)) = True := eq_true (by omega)
      have q1 : ((q : Int) < (m : Int)) = True := eq_true (by have := HM.out; omega)
      have q2 : (q < m) = True := eq_true (by have := HM.out; omega)
      have q3 : ((q : Int) < (ps.length : Int)) = True := eq_true (by omega)
      have q4 : (q < ps.length) = True := eq_true hqp
      have hx : wr.cell? ⟨ga, q, none⟩ = some (.int .i64 (a'.getD q 0)) := (blk_cell HA.out q).trans (intsOf_get a' q hql)
      have hfz := blk_frozen HA.out q
      have hpa := at_L4 (Kd.C_below HC.out HB2.out) (q : Int) (by omega) (by omega)
      obtain ⟨ad, Ai, ci, eA, hx1, _⟩ := hpa
      subst eA
      have hrd : rd_L4 ps (q : Int) = ps.getD q [] := by simp [rd_L4]
      rw [hrd] at hx1
      rw [Int.toNat_natCast] at hx1
      have hadlt : (ad.add q).block < w0.heap.size := by
        obtain ⟨ad', _, _, e', hx', _⟩ := at_L4 HC.out (q : Int) (by omega) (by omega)
        injection e' with e'
        subst e'
        have := World.block_lt_of_cell? w0 _ hx'
        simpa using this
      obtain ⟨x, hxx⟩ : ∃ x, x = a'.getD q 0 := ⟨_, rfl⟩
      rw [← hxx] at hx
      have HXX := Aside0.mk hxx
      obtain ⟨v, hv⟩ : ∃ v, wrap64 (x + 1) = v := ⟨_, rfl⟩
      have HV := Aside0.mk hv
      generalize hpl : (ps.getD q []).length = pl at hx1
      have HPL := Aside0.mk hpl
      have hA2 := blk_put HA.out q (.int .i64 v) (intsOf_set a' q v)
      have hne : w.heap.size ≠ ga := fun e => by have := blk_lt HGA.out; omega
      have hP2 := blk_far (p := ⟨ga, q, none⟩) HPB.out hne (.int .i64 v)
      have HA2 := Aside0.mk hA2
      have HP2 := Aside0.mk hP2
      have y0 : (wr.setCell ⟨ga, q, none⟩ (.int .i64 v)).cell? ⟨ga, q, none⟩ = some (.int .i64 v) := (blk_cell hA2 q).trans (by rw [intsOf_get _ q (by simp; omega)]; simp [List.getD, hql])
      have y1 : (wr.setCell ⟨ga, q, none⟩ (.int .i64 v)).cell? ⟨w.heap.size, 0, none⟩ = some (.slice (some ad) ps.length c) := (blk_cell hP2 0).trans rfl
      have y2 : (wr.setCell ⟨ga, q, none⟩ (.int .i64 v)).cell? (ad.add q) = some (.slice Ai pl ci) := (cell_far (p := ⟨ga, q, none⟩) (by show (ad.add q).block ≠ ga; have := HG0.out; omega) _).trans hx1
      clear hA2 hP2 hpl hadlt hrd hq hql hqp hx1 hxx
      by_cases c2 : v < (pl : Int)
      · have cc : decide (v < (pl : Int)) = true := decide_eq_true c2
        have C2 := Aside0.mk c2
        clear c2
        go_wp2
        go_region_held3 (fun w' => w'.cell? ⟨ga, q, none⟩ = some (.int .i64 v) ∧ w'.cell? ⟨w.heap.size, 0, none⟩ = some (.slice (some ad) ps.length c) ∧ w'.cell? (ad.add q) = some (.slice Ai pl ci)) (go_keep) (fail)
        have HF2 := Aside0.mk (show (true, a'.set q v) = res from by
          have h_ := HF.out
          unfold nextF at h_
          rw [← HXX.out, HV.out, HPL.out, if_pos C2.out] at h_
          exact h_)
        go_wp2
        go_ret
        exact ⟨by rw [← HF2.out]; rfl, by rw [← HF2.out]; exact HA2.out, below_drew1 (HB2.out.setCell (p := ⟨ga, q, none⟩) HG0.out _), by have := HK.out.1; have := (blk_lt HP2.out); show w.heap.size ≤ (wr.setCell _ _).heap.size; omega, fun i hi hn => (Below.heap_setCell wr ⟨ga, q, none⟩ _ i hn).trans (HK.out.2 i hi hn)⟩
      · have cc : decide (v < (pl : Int)) = false := decide_eq_false c2
        have C2 := Aside0.mk c2
        clear c2
        have hfz2 : (wr.setCell ⟨ga, q, none⟩ (.int .i64 v)).drew.frozen? ⟨ga, q, none⟩ = false := blk_frozen (show (wr.setCell ⟨ga, q, none⟩ (.int .i64 v)).drew.heap[ga]? = _ from HA2.out) q
        have y3 : (wr.setCell ⟨ga, q, none⟩ (.int .i64 v)).drew.cell? ⟨ga, q, none⟩ = some (.int .i64 v) := y0
        have hw3 : wrap64 ((q : Int) - 1) = (q : Int) - 1 := w64o (by omega) (by have := HQ.out; have := HM.out; have := HL.out; have := HN.out; omega)
        go_wp2
        go_region_held3 (fun w' => w'.cell? ⟨ga, q, none⟩ = some (.int .i64 v) ∧ w'.cell? ⟨w.heap.size, 0, none⟩ = some (.slice (some ad) ps.length c) ∧ w'.cell? (ad.add q) = some (.slice Ai pl ci)) (go_keep) (fail)
        go_wp2
        go_roundg ko
        case measure => omega
        case rel =>
          have HF2 := (show nextF ps q (a'.set q 0) = res from by
            have h_ := HF.out
            unfold nextF at h_
            rw [← HXX.out, HV.out, HPL.out, if_neg (show ¬ v < (pl : Int) by have := C2.out; omega)] at h_
            exact h_)
          exact ⟨q, a'.set q 0, by rw [hw3], ⟨by have := HQ.out; omega, by have := HQ.out; omega, by have := HQ.out; omega, by have := HQ.out; simp; omega⟩, ⟨HF2⟩, ⟨blk_put (show (wr.setCell ⟨ga, q, none⟩ (.int .i64 v)).drew.heap[ga]? = _ from HA2.out) q (.int .i64 0) (by rw [intsOf_set, List.set_set])⟩, ⟨blk_far (p := ⟨ga, q, none⟩) (show (wr.setCell ⟨ga, q, none⟩ (.int .i64 v)).drew.heap[w.heap.size]? = _ from HP2.out) (fun e => by have := blk_lt HGA.out; simp at e; omega) _⟩, ⟨(below_drew1 (HB2.out.setCell (p := ⟨ga, q, none⟩) HG0.out _)).setCell (p := ⟨ga, q, none⟩) HG0.out _⟩, ⟨by have := HK.out.1; have := (blk_lt HP2.out); simpa [World.setCell] using HK.out.1, fun i hi hn => (Below.heap_setCell _ ⟨ga, q, none⟩ _ i hn).trans ((Below.heap_setCell wr ⟨ga, q, none⟩ _ i hn).trans (HK.out.2 i hi hn))⟩⟩
structure BX where
  A : Option Addr
  c : Nat
  sp : List S34
  base : Int
  A' : Option Addr
  c' : Nat
  st : List Int
def encB (x : BX) : Array Value := #[.agg #[.slice x.A x.sp.length x.c, .int .i64 x.base, .slice x.A' x.st.length x.c']]
def RdB (bx : Nat → List S34 × Int × List Int) (N : Nat) (pre : List BX) (x : BX) (W : World) : Prop :=
  pre.length < N ∧ (x.sp, x.base, x.st) = bx pre.length ∧ Kd.C k34 W x.A x.sp.length x.sp ∧ x.sp.length ≤ x.c ∧ Kd.C (Kd.int .i64) W x.A' x.st.length x.st ∧ x.st.length ≤ x.c'
theorem made_ints (n : Nat) : madeCells #[.int .i64 0] n = intsOf (List.replicate n 0) := by
  unfold intsOf
  apply Array.ext
  · simp [madeCells]
  · intro i h1 h2
    simp [madeCells, Nat.mod_one]
theorem C_ints_kept {W W' : World} {A : Option Addr} {n : Nat} {l : List Int} (h : Kd.C (Kd.int .i64) W A n l) (hk : ∀ ad, A = some ad → W'.heap[ad.block]? = W.heap[ad.block]?) : Kd.C (Kd.int .i64) W' A n l :=
  ⟨h.1, h.2.1, fun hn => by
    obtain ⟨ad, e, hc⟩ := h.2.2 hn
    refine ⟨ad, e, fun j p hj => ?_⟩
    obtain ⟨c, hs, hr, hcell⟩ := hc j p hj
    refine ⟨c, hs, hr, fun i u hu => ?_⟩
    have h1 := hcell i u hu
    unfold World.cell? at h1 ⊢
    rw [add_block] at h1 ⊢
    rw [hk ad e]
    exact h1⟩
theorem C_ints_of {W : World} {g : Nat} {l : List Int} (h : W.heap[g]? = some (.cells (intsOf l) 3 (0, 0))) (hl : l.length ≤ 9223372036854775807) : Kd.C (Kd.int .i64) W (some ⟨g, 0, none⟩) l.length l :=
  ⟨rfl, hl, fun _ => ⟨_, rfl, fun j p hj => ⟨[.int .i64 p], rfl, rfl, fun i u hu => by
    have hjl := (List.getElem?_eq_some_iff.1 hj).1
    match i, hu with
    | 0, hu =>
      have e : u = .int .i64 p := by simpa using hu.symm
      rw [e]
      have ea : (⟨g, 0, none⟩ : Addr).add (j * (Kd.int .i64).sz + 0) = ⟨g, j, none⟩ := by
        rw [show (Kd.int .i64).sz = 1 from rfl, Nat.mul_one, Nat.add_zero]
        unfold Addr.add
        split
        · rename_i h0; simp [h0]
        · simp
      rw [ea, (blk_cell h j), intsOf_get l j hjl]
      simp [List.getD, hj]⟩⟩⟩
theorem make_choice {P : Program} {ops : Array Oper} {rest : List Oper} {o : Oper} {a : Act} {Q : Exit → Act → World → Prop} {W : World} {N : Option Tmp} (hg : o.guard = none) (hd : o.dst = N) (x y : Operand) (hop : o.op = Op.makeSlice 53 x y) (n : Nat) (hx : a.eval x = .int .i64 (n : Int)) (hy : a.eval y = .int .i64 (n : Int))
    (hm : P.underlying 53 = some (.slice 3) ∧ (P.info? 3).map (fun i => (i.zero, i.size, i.bytes)) = some (some (.int .i64 0), 1, 8) ∧ n ≤ 35184372088832)
    (h : ∀ (A : Option Addr) (ga m : Nat) (w1 : World), A = some ⟨ga, 0, none⟩ → ga = W.heap.size → m = n → w1.heap[ga]? = some (.cells (intsOf (List.replicate n 0)) 3 (0, 0)) → Below W.heap.size W w1 → wpList P ops Q rest (a.put N (.slice A m m)) w1) : wpList P ops Q (o :: rest) a W := by
  obtain ⟨ht, hi, hle⟩ := hm
  obtain ⟨i0, hi, hzz⟩ := Option.map_eq_some_iff.1 hi
  simp only [Prod.mk.injEq] at hzz
  obtain ⟨hz0, hz1, hz2⟩ := hzz
  refine wpList_make_row W hg x y 53 hop 3 i0 (.int .i64 0) ht hi hz0 hz1 rfl .i64 .i64 n hx hy (by rw [hz2]; omega) (by omega) ?_
  subst hd
  refine h _ W.heap.size n _ rfl rfl rfl ?_ ((Below.refl _ W).alloc (Nat.le_refl _) _)
  rw [made_ints]
  exact World.alloc_heap_new W _
def shape_Boxes_1.l0 : Nat → List Int → List Int → List (List (S34)) → Int → Int → List (S34) → Int → List Int → Option ((List (S34)) × Int × List Int)
  | 0, _, _, _, _, _, _, _, _ => none
  | k + 1, x3, x4, x26, x27, x28, x588000, x588001, x588002 => if x28 < x27 then (if 0 ≤ x28 then (if x28 < (x26.length : Int) then (if x28 < (x4.length : Int) then (if 0 ≤ (rd x4 x28) then (if (rd x4 x28) < ((rd_L4 x26 x28).length : Int) then (if x588000.length < 8796093022208 then ((spans_Rank.f k (rd_L4 x26 x28) ((rd_T34 (rd_L4 x26 x28) (rd x4 x28)).f0)).bind fun bt596 => (if x28 < (x3.length : Int) then (shape_Boxes_1.l0 k x3 x4 x26 x27 (wrap64 (x28 + 1)) (x588000 ++ [(⟨(rd_T34 (rd_L4 x26 x28) (rd x4 x28)).f0, (rd_T34 (rd_L4 x26 x28) (rd x4 x28)).f1⟩ : S34)]) (wrap64 (x588001 + (wrap64 (bt596.1 * (rd x3 x28))))) x588002) else (none))) else (none)) else (none)) else (none)) else (none)) else (none)) else (none)) else (some (x588000, x588001, x588002))
def shape_Boxes_1.f (k : Nat) (l0_0 : List (List (S34))) (a0_1 : Int) (l1 : List Int) (l2 : List Int) : Option ((List (S34)) × Int × List Int) := (cloneInt.f l1).bind fun t584 => (shape_Boxes_1.l0 k l1 l2 l0_0 (l0_0.length : Int) 0 ([] : List (S34)) a0_1 t584)
def shape_Boxes_1.T7 : Bool × List (List Nat × List Nat) := (true, [([], []), ([0], [0]), ([], []), ([], []), ([], []), ([3, 4], [3, 4]), ([5], [5]), ([2, 6], [2, 6]), ([7], [7]), ([8], [8]), ([1, 9], [1, 9]), ([0, 1, 2, 3, 4, 5, 6, 7, 8, 9, 10], []), ([11, 10, 10, 0, 1, 2, 3, 4, 5, 6, 7, 8, 9, 10], [10, 11])])
def shape_Boxes_1.B7 : List Nat := [0, 1, 0, 0, 0, 24, 56, 124, 252, 508, 1023, 2047, 4095]
theorem shape_Boxes_1.tab7 : rtab .any (opsOf Try.f73 7) = shape_Boxes_1.T7 := by kernel_rfl
theorem shape_Boxes_1.bits7 : waitsOk shape_Boxes_1.T7.2 shape_Boxes_1.B7 = true := by kernel_rfl
def shape_Boxes_1.T9 : Bool × List (List Nat × List Nat) := (true, [([], []), ([0], [0]), ([], []), ([], []), ([], []), ([3, 4], [3, 4]), ([5], [5]), ([2, 6], [2, 6]), ([1, 7], [1, 7]), ([0, 1, 2, 3, 4, 5, 6, 7, 8], []), ([9, 8, 0, 1, 2, 3, 4, 5, 6, 7, 8], [8, 9])])
def shape_Boxes_1.B9 : List Nat := [0, 1, 0, 0, 0, 24, 56, 124, 255, 511, 1023]
theorem shape_Boxes_1.tab9 : rtab .any (opsOf Try.f73 9) = shape_Boxes_1.T9 := by kernel_rfl
theorem shape_Boxes_1.bits9 : waitsOk shape_Boxes_1.T9.2 shape_Boxes_1.B9 = true := by kernel_rfl
set_option maxHeartbeats 4000000 in
set_option maxRecDepth 100000 in
theorem boxes1_in (n l₀ : Nat) (hn : 1 ≤ n) (k : Nat) (gb583 : Nat) (A0_0 : Option Addr) (c0_0 : Nat) (l0_0 : List (List S34)) (a0_1 : Int) (tv : Bool) (t266 : List Int) (N : Nat) (ats : Nat → List Int) (bx : Nat → List S34 × Int × List Int)
    (w00 w : World) (hW : Below w00.heap.size w00 w) (hgb : w00.heap[gb583]? = some (.cells #[.slice A0_0 l0_0.length c0_0, .int .i64 a0_1] 47 (0, 0))) (hC : Kd.C (Kd.slice 34 k34) w00 A0_0 l0_0.length l0_0) (hc0_0 : l0_0.length ≤ c0_0)
    (hv : shape_Valid.f k l0_0 a0_1 = some tv) (hno : tv = false → N = 0)
    (hyes : tv = true → 1 ≤ N ∧ shape_steps.f k l0_0 a0_1 = some t266 ∧ 1 ≤ (t266.length : Int) ∧ l0_0.length ≤ 35184372088832 ∧ ats 0 = List.replicate l0_0.length 0 ∧ ∀ i, i < N → (ats i).length = l0_0.length ∧ shape_Boxes_1.f k l0_0 a0_1 (t266.drop 1) (ats i) = some (bx i) ∧ nextF l0_0 l0_0.length (ats i) = (decide (i + 1 < N), ats (i + 1)))
    (J Jx : (Nat → Prop) → List BX → World → Prop) (hJ : AbidesG w.heap.size J) (hJx : AbidesG w.heap.size Jx) (h0 : J (fun _ => False) [] w)
    (hY : ∀ G pre x W1, (∀ k, G k → w.heap.size ≤ k ∧ k < W1.heap.size) → J G pre W1 → RdB bx N pre x W1 → YieldAt Fence.wide (n - 1) Try.prog l₀ (encB x) W1 fun e W' => (e = .returned (.bool true) ∧ J G (pre ++ [x]) W' ∧ Below w00.heap.size W1 W' ∧ ∀ k, G k → W'.heap[k]? = W1.heap[k]?) ∨ (e = .returned (.bool false) ∧ Jx G (pre ++ [x]) W')) :
    CallsIn Fence.wide n Try.prog 73 #[.func (.yield l₀) #[] #[], .pointer (some ⟨gb583, 0, none⟩)] w fun e W' => (∃ v, e = .returned v) ∧ ∃ G : Nat → Prop, (∀ k, G k → w.heap.size ≤ k) ∧ ((∃ xs, xs.length = N ∧ J G xs W') ∨ (∃ pre, (1 ≤ pre.length ∧ pre.length ≤ N) ∧ Jx G pre W')) := by
  have hu47 := Try.underlying47
  have hu55 := Try.underlying55
  have hu34 := Try.underlying34
  have HW0 := Aside0.mk hW
  have HC00 := Aside0.mk hC
  have HGB := Aside0.mk hgb
  have HC0_0 := Aside0.mk hc0_0
  have HR0_0 := Aside0.mk (Kd.C_below hC hW)
  have BK583 := Aside0.mk (blk_below hgb hW)
  have HB := Aside0.mk (Below.refl w.heap.size w)
  have A2 := Aside0.mk hv
  have HNO := Aside0.mk hno
  have HYES := Aside0.mk hyes
  have HJ := Aside0.mk hJ
  have HJX := Aside0.mk hJx
  have H0 := Aside0.mk h0
  have HY := Aside0.mk hY
  have HN := Aside0.mk hn
  have hcz9_0 : w.cell? ⟨gb583, 0, none⟩ = some (.slice A0_0 l0_0.length c0_0) := (blk_cell BK583.out 0).trans rfl
  have hcz9_1 : w.cell? ⟨gb583, 1, none⟩ = some (.int .i64 a0_1) := (blk_cell BK583.out 1).trans rfl
  have hfz9_0 := blk_frozen BK583.out 0
  have hfz9_1 := blk_frozen BK583.out 1
  clear hW hgb hC hc0_0 hv hno hyes hJ hJx h0 hY hn
  refine callsIn_of_wp Try.func73 rfl trivial ?_ rfl
  simp only [Try.ntmps73, List.size_toArray, List.length_cons, List.length_nil, Nat.reduceAdd, Nat.reduceSub, Array.replicate_succ, Array.replicate_zero, List.push_toArray, List.append_toArray, List.nil_append, List.cons_append]
  refine wpIn_wide.2 ?_
  cases tv with
  | false =>
    go_wp2_with (first | ((with_reducible refine gate_callee (f := 74) rfl ?_); refine goesL_ (some 11) rfl rfl Try.func74 (by kernel_rfl) rfl #[.agg #[.slice A0_0 l0_0.length c0_0, .int .i64 a0_1]] rfl (by (try simp only [List.map_toArray, List.map_cons, List.map_nil]); first | done | rfl | (simp only [List.length_drop, List.length_take]; rfl)) ?_; (with_reducible refine (shape_Valid.calls k (fun k_ => k_ < w.heap.size) _ _ l0_0 a0_1 false _ ?side1 A2.out).mono ?_); (case side1 => exact Kd.V_mk HC0_0.out (Kd.F_below (Kd.C_F (Kd.heap_slice 34 k34_heap) HR0_0.out) (by repeat (first | (with_reducible first | exact HB.out | apply below_alloc | apply pw_below_drewN | apply below_drew1 | refine below_set ?_ GE583.out) | exact HB.out)))); rintro e w20 ⟨rfl, hb⟩; refine ⟨_, rfl, ?_⟩; have n0_ := Aside0.mk (blk_below (g := gb583) (o := .cells #[.slice A0_0 l0_0.length c0_0, .int .i64 a0_1] 47 (0, 0)) (by (with_reducible repeat (first | refine blk_drewN ?_ _ | refine blk_drew ?_ | refine blk_alloc ?_ _)); exact BK583.out) hb); have n1_ := Aside0.mk (below_step (by repeat (first | (with_reducible first | exact HB.out | apply below_alloc | apply pw_below_drewN | apply below_drew1 | refine below_set ?_ GE583.out) | exact HB.out)) hb); clear BK583; clear HB; have BK583 := n0_; have HB := n1_; clear n0_ n1_; (try clear hb); (try clear hb2); (try clear hk); (try clear hi)))
    refine bodyPost_ret (results_none rfl _ _ _) rfl ?_
    exact ⟨⟨_, rfl⟩, fun _ => False, fun _ h => h.elim, .inl ⟨[], (HNO.out (by simp)).symm, HJ.out _ _ _ _ _ H0.out (fun _ h => h.elim) (GrownG.of_below HB.out) (fun _ h => h.elim)⟩⟩
  | true =>
    obtain ⟨hN1, hst, hl1, hmk, hat0, hats⟩ := HYES.out rfl
    have A4 := Aside0.mk hst
    have c5b0 := eq_true hl1
    have c5b1 : decide (1 ≤ (t266.length : Int)) = true := decide_eq_true hl1
    have hmk : Try.prog.underlying 53 = some (.slice 3) ∧ (Try.prog.info? 3).map (fun i => (i.zero, i.size, i.bytes)) = some (some (.int .i64 0), 1, 8) ∧ l0_0.length ≤ 35184372088832 := ⟨Try.underlying53, info3, hmk⟩
    have HMK := Aside0.mk hmk.2.2
    have HN1 := Aside0.mk hN1
    have HAT0 := Aside0.mk hat0
    have HATS := Aside0.mk hats
    obtain ⟨l1, hl1'⟩ : ∃ l1, l1 = t266.drop 1 := ⟨_, rfl⟩
    have Nl1 := Aside0.mk (show l1 = t266.drop (1 : Int).toNat from hl1')
    clear hN1 hst hl1 hat0 hats hl1'
    go_wp2_with (first | ((with_reducible refine gate_callee (f := 74) rfl ?_); refine goesL_ (some 11) rfl rfl Try.func74 (by kernel_rfl) rfl #[.agg #[.slice A0_0 l0_0.length c0_0, .int .i64 a0_1]] rfl (by (try simp only [List.map_toArray, List.map_cons, List.map_nil]); first | done | rfl | (simp only [List.length_drop, List.length_take]; rfl)) ?_; (with_reducible refine (shape_Valid.calls k (fun k_ => k_ < w.heap.size) _ _ l0_0 a0_1 true _ ?side1 A2.out).mono ?_); (case side1 => exact Kd.V_mk HC0_0.out (Kd.F_below (Kd.C_F (Kd.heap_slice 34 k34_heap) HR0_0.out) (by repeat (first | (with_reducible first | exact HB.out | apply below_alloc | apply pw_below_drewN | apply below_drew1 | refine below_set ?_ GE583.out) | exact HB.out)))); rintro e w10 ⟨rfl, hb⟩; refine ⟨_, rfl, ?_⟩; have n0_ := Aside0.mk (blk_below (g := gb583) (o := .cells #[.slice A0_0 l0_0.length c0_0, .int .i64 a0_1] 47 (0, 0)) (by (with_reducible repeat (first | refine blk_drewN ?_ _ | refine blk_drew ?_ | refine blk_alloc ?_ _)); exact BK583.out) hb); have n1_ := Aside0.mk (below_step (by repeat (first | (with_reducible first | exact HB.out | apply below_alloc | apply pw_below_drewN | apply below_drew1 | refine below_set ?_ GE583.out) | exact HB.out)) hb); clear BK583; clear HB; have BK583 := n0_; have HB := n1_; clear n0_ n1_; (try clear hb); (try clear hb2); (try clear hk); (try clear hi); have hcz11_0 : w10.cell? ⟨gb583, 0, none⟩ = some (.slice A0_0 l0_0.length c0_0) := (blk_cell BK583.out 0).trans rfl; have hcz11_1 : w10.cell? ⟨gb583, 1, none⟩ = some (.int .i64 a0_1) := (blk_cell BK583.out 1).trans rfl; have hfz11_0 := blk_frozen BK583.out 0; have hfz11_1 := blk_frozen BK583.out 1) | ((with_reducible refine gate_callee (f := 75) rfl ?_); refine goesL_ (some 14) rfl rfl Try.func75 (by kernel_rfl) rfl #[.agg #[.slice A0_0 l0_0.length c0_0, .int .i64 a0_1]] rfl (by (try simp only [List.map_toArray, List.map_cons, List.map_nil]); first | done | rfl | (simp only [List.length_drop, List.length_take]; rfl)) ?_; (with_reducible refine (shape_steps.calls k _ _ l0_0 a0_1 t266 _ ?side1 ?side2 A4.out).mono ?_); (case side1 => repeat (first | exact (Kd.C_below HR0_0.out HB.out) | (with_reducible refine Kd.C_alloc ?_ _) | (with_reducible refine Kd.C_drewN ?_ _) | (with_reducible refine Kd.C_drew ?_))); (case side2 => exact HC0_0.out); rintro e w12 ⟨v267, rfl, ho0, hb⟩; refine ⟨_, rfl, ?_⟩; have n0_ := Aside0.mk (Kd.R_lower ho0 (below_size (by repeat (first | (with_reducible first | exact HB.out | apply below_alloc | apply pw_below_drewN | apply below_drew1 | refine below_set ?_ GE583.out) | exact HB.out)))); have n1_ := Aside0.mk (blk_below (g := gb583) (o := .cells #[.slice A0_0 l0_0.length c0_0, .int .i64 a0_1] 47 (0, 0)) (by (with_reducible repeat (first | refine blk_drewN ?_ _ | refine blk_drew ?_ | refine blk_alloc ?_ _)); exact BK583.out) hb); have n2_ := Aside0.mk (below_step (by repeat (first | (with_reducible first | exact HB.out | apply below_alloc | apply pw_below_drewN | apply below_drew1 | refine below_set ?_ GE583.out) | exact HB.out)) hb); clear BK583; clear HB; have HO268 := n0_; have BK583 := n1_; have HB := n2_; clear n0_ n1_ n2_; (try clear hb); (try clear hb2); (try clear hk); (try clear hi); (try clear ho0); obtain ⟨Ao13, co13, eo13⟩ := Kd.R_slice HO268.out; subst eo13; have q14 : (1 : Int) ≤ ((t266.length : Int) : Int) := of_decide_eq_true (by first | (with_reducible assumption) | assumption); obtain ⟨i014, hi014, _, hsz14, _⟩ := info_parts info3; have hcut14 := cut_from (P := Try.prog) 53 3 .i64 Try.underlying53 hi014 1 hsz14 Ao13 t266.length co13 1 (by omega) q14; have hr14 := Kd.Q_drop (k := (1 : Int).toNat) (Kd.Q_of_R HO268.out) (by omega); obtain ⟨A1, hA14⟩ : ∃ A1, A1 = (if co13 = (1 : Int).toNat then Ao13 else (Ao13 : Option Addr).map (·.add ((1 : Int).toNat * 1))) := ⟨_, rfl⟩; obtain ⟨c1, hc14⟩ : ∃ c1, c1 = co13 - (1 : Int).toNat := ⟨_, rfl⟩; have hy14 : l1.length = t266.length - (1 : Int).toNat := (by rw [Nl1.out, List.length_drop]); rw [← Nl1.out] at hr14; rw [← hy14, ← hA14, ← hc14] at hcut14; replace hr14 : Kd.Q (Kd.int .i64) 3 w12 w.heap.size (fun _ => True) (.slice A1 l1.length c1) l1 := (by rw [hA14, hc14, hy14]; exact hr14); have HE14 : Aside0 ((Value.slice A1 l1.length c1).ownBlock = (.slice Ao13 t266.length co13 : Value).ownBlock) := ⟨by rw [hA14]; split <;> (cases (Ao13 : Option Addr) <;> rfl)⟩; clear hy14 hi014 hsz14 HO268 hA14 hc14; have HO271 := Aside0.mk hr14; clear hr14; replace q14 := eq_true q14; have hcz15_0 : w12.cell? ⟨gb583, 0, none⟩ = some (.slice A0_0 l0_0.length c0_0) := (blk_cell BK583.out 0).trans rfl; have hcz15_1 : w12.cell? ⟨gb583, 1, none⟩ = some (.int .i64 a0_1) := (blk_cell BK583.out 1).trans rfl; have hfz15_0 := blk_frozen BK583.out 0; have hfz15_1 := blk_frozen BK583.out 1) | ((with_reducible refine gate_dst (N := 19) rfl ?_); refine make_choice (N := some 19) rfl rfl _ _ rfl l0_0.length rfl rfl hmk ?_; intro A2 ga m wm hA2 hga hm hgm hb; have n0_ := Aside0.mk (Kd.Q_below (by (with_reducible repeat (first | apply Kd.Q_alloc | apply Kd.Q_drewN | apply Kd.Q_drew)); exact HO271.out) hb); have n1_ := Aside0.mk (below_step (by repeat (first | (with_reducible first | exact HB.out | apply below_alloc | apply pw_below_drewN | apply below_drew1) | exact HB.out)) hb); have HGA := Aside0.mk hgm; have HA2 := Aside0.mk hA2; have HM := Aside0.mk hm; have HGS := Aside0.mk hga; have HGQ := Aside0.mk (show ∀ k, (Value.slice A1 l1.length c1).ownBlock = some k → k < ga from fun k hk => by rw [hga]; exact Kd.Q_lt (by (with_reducible repeat (first | apply Kd.Q_alloc | apply Kd.Q_drewN | apply Kd.Q_drew)); exact HO271.out) k hk); have HGL := Aside0.mk ((by rw [hga]; exact (below_size (by repeat (first | (with_reducible first | exact HB.out | apply below_alloc | apply pw_below_drewN | apply below_drew1) | exact HB.out)))) : w.heap.size ≤ ga); clear hb hgm hA2 hm hga; clear HB; clear HO271; have HST := n0_; have HB := n1_; have HBK := n1_; clear n0_ n1_))
    have hq := Kd.Q_reads' HST.out
    have HC1 := Aside0.mk hq.2.1
    have HSR := Aside0.mk hq.2.2
    have HSB := Aside0.mk (Kd.Q_base HST.out)
    have HBW := Aside0.mk (HW0.out.trans (HB.out.mono HW0.out.size))
    have HSZ := Aside0.mk HB.out.size
    obtain ⟨we, hwe⟩ : ∃ we, we = w := ⟨_, rfl⟩
    subst hwe
    clear hq HST HB BK583 HR0_0 hcz9_0 hcz9_1 hfz9_0 hfz9_1 hmk
    obtain ⟨G, hG⟩ : ∃ G : Nat → Prop, G = fun k => k = ga ∨ (Value.slice A1 l1.length c1).ownBlock = some k := ⟨_, rfl⟩
    have HGa : Aside0 (G ga) := ⟨by rw [hG]; exact .inl rfl⟩
    have HGs : Aside0 (∀ k, (Value.slice A1 l1.length c1).ownBlock = some k → G k) := ⟨fun k h => by rw [hG]; exact .inr h⟩
    have HGw : Aside0 (∀ k, G k → we.heap.size ≤ k ∧ k ≤ ga) := ⟨fun k h => by rw [hG] at h; rcases h with rfl | h; (exact ⟨HGL.out, Nat.le_refl _⟩); exact ⟨HSB.out k h, Nat.le_of_lt (HGQ.out k h)⟩⟩
    have HJ0 := Aside0.mk (HJ.out (fun _ => False) G [] we _ H0.out (fun _ h => h.elim) (GrownG.of_below HBK.out) (fun k hk => .inr (HGw.out k hk).1))
    clear hG
    go_loopg [] N (fun kq w' => ∃ (i : Nat) (pre : List BX), Aside0 (kq + i = N ∧ 1 ≤ kq ∧ pre.length = i) ∧ Aside0 (J G pre w') ∧ Aside0 (w'.heap[ga]? = some (.cells (intsOf (ats i)) 3 (0, 0))) ∧ Aside0 (Kd.C (Kd.int .i64) w' A1 l1.length l1) ∧ Aside0 (Below w00.heap.size w00 w') ∧ Aside0 (we.heap.size ≤ w'.heap.size))
    case atStart => exact ⟨0, [], ⟨by omega, HN1.out, rfl⟩, HJ0, ⟨by rw [HAT0.out]; exact HGA.out⟩, HSR, HBW, HSZ⟩
    case round =>
      clear HGA HSR HBW HSZ HJ0
      obtain ⟨i, pre, HI, HJ1, HGA, HR1, HBW, HSZ⟩ := hrel
      obtain ⟨hlen, hbx, hnx⟩ := HATS.out i (by have := HI.out; omega)
      obtain ⟨w, hw_⟩ : ∃ w, w = wr := ⟨_, rfl⟩
      subst hw_
      obtain ⟨l2, hl2⟩ : ∃ l2, l2 = ats i := ⟨_, rfl⟩
      rw [← hl2] at hlen hbx hnx HGA
      have HL2 := Aside0.mk hl2
      obtain ⟨⟨r1, r2, r3⟩, hr⟩ : ∃ p, p = bx i := ⟨_, rfl⟩
      rw [← hr] at hbx
      have HBX := Aside0.mk hr
      have HNX := Aside0.mk hnx
      have HLN := Aside0.mk hlen
      have hm2 : m = l2.length := HM.out.trans hlen.symm
      clear hl2 hr hnx hlen
      subst hm2
      have HR0_0 := Aside0.mk (Kd.C_below HC00.out HBW.out)
      have hcg := C_ints_of HGA.out (by have := HLN.out; have := HMK.out; omega)
      rw [← HA2.out] at hcg
      have HR2 := Aside0.mk hcg
      obtain ⟨c2, hc2⟩ : ∃ c2, c2 = l2.length := ⟨_, rfl⟩
      have HC2 := Aside0.mk (show l2.length ≤ c2 by omega)
      have hb0 := blk_below HGB.out HBW.out
      have BK583 := Aside0.mk (blk_drew hb0)
      have HB := Aside0.mk (below_drew1 (Below.refl w.heap.size w))
      have H : ((cloneInt.f l1).bind fun t584 => (shape_Boxes_1.l0 k l1 l2 l0_0 (l0_0.length : Int) 0 ([] : List (S34)) a0_1 t584)) = some (r1, r2, r3) := by rw [Nl1.out]; exact hbx
      clear hbx hcg hb0 hc2
      replace H := Option.bind_eq_some_iff.mp H
      obtain ⟨t584, A40, H⟩ := H
      replace H : (shape_Boxes_1.l0 k l1 l2 l0_0 (l0_0.length : Int) 0 ([] : List (S34)) a0_1 t584) = some (r1, r2, r3) := H
      have A4 := Aside0.mk A40
      clear A40
      have H' := Aside0.mk H
      clear H
      go_wp2
      refine start_ (n := 7) (S := fun w' => w'.cell? ⟨gb583, 0, none⟩ = some (.slice A0_0 l0_0.length c0_0) ∧ w'.cell? ⟨gb583, 1, none⟩ = some (.int .i64 a0_1)) (ds := []) #[false, false, false, false, false, false, false] (by kernel_rfl) rfl rfl ⟨(blk_cell BK583.out 0).trans rfl, (blk_cell BK583.out 1).trans rfl⟩ (fun hHeld => ?_)
      generalize w.drew = w6 at BK583 HB hHeld ⊢
      refine pure_ (i := 0) (N := some 20) (v := ?_) (a' := ?_) #[true, false, false, false, false, false, false] rfl rfl (by kernel_rfl) (fun _ _ _ h => h) (Or.inl ⟨by rfl, ?_⟩) ?_ ?_
      rotate_left
      · intro w'
        go_simp
        with_reducible rfl
      rotate_left
      · simp only [Act.put, List.setIfInBounds_toArray, List.set_cons_zero, List.set_cons_succ, i64_w, i32_w]
        rfl
      refine pure_ (i := 2) (N := some 22) (v := ?_) (a' := ?_) #[true, false, true, false, false, false, false] rfl rfl (by kernel_rfl) (fun _ _ _ h => h) (Or.inl ⟨by rfl, ?_⟩) ?_ ?_
      rotate_left
      · intro w'
        go_simp
        with_reducible rfl
      rotate_left
      · simp only [Act.put, List.setIfInBounds_toArray, List.set_cons_zero, List.set_cons_succ, i64_w, i32_w]
        rfl
      refine take_ (i := 1) (N := some 21) (v := ?_) (a' := ?_) #[true, true, true, false, false, false, false] rfl rfl (by kernel_rfl) (fun _ _ _ h => h) (Or.inl ⟨by rfl, ?_⟩) hHeld ?_ ?_
      rotate_left
      · rintro w' ⟨s0, s1⟩
        go_simp
        with_reducible rfl
      rotate_left
      · simp only [Act.put, List.setIfInBounds_toArray, List.set_cons_zero, List.set_cons_succ, i64_w, i32_w]
        rfl
      refine join_ (σ := Value × Nat) 1 #[true, true, true, true, true, true, false] (fun s_ => [(23, s_.1), (5, .pointer (some ⟨s_.2, 0, none⟩)), (24, .agg #[.slice none 0 0, .int .i64 a0_1, s_.1])]) (fun s_ w' => (w'.cell? ⟨gb583, 0, none⟩ = some (.slice A0_0 l0_0.length c0_0) ∧ w'.cell? ⟨gb583, 1, none⟩ = some (.int .i64 a0_1)) ∧ (Kd.R (Kd.int .i64) 3 w' w.heap.size (fun _ => True) s_.1 t584) ∧ (w'.heap[gb583]? = some (.cells #[.slice A0_0 l0_0.length c0_0, .int .i64 a0_1] 47 (0, 0))) ∧ (w'.heap[s_.2]? = some (.cells #[.slice none 0 0, .int .i64 0, .slice none 0 0] 55 (0, 0))) ∧ (w.heap.size ≤ s_.2) ∧ (w.heap.size ≤ s_.2) ∧ (gb583 ≠ s_.2) ∧ (s_.2 ≠ gb583) ∧ (Below w.heap.size w w')) ?_ ?_
      rotate_left
      · intro hCont
        refine two_ (i := 3) (j := 5) (Ni := some 23) (Nj := some 5) #[true, true, true, true, false, false, false] #[true, true, true, false, false, true, false] rfl rfl rfl rfl (by kernel_rfl) (by decide) (by decide) (fun K hK => ?_) (fun K hK => ?_)
        · skip
          refine goes_ Try.func76 (by kernel_rfl) rfl #[.slice A1 l1.length c1] (by rfl) rfl rfl (by (try simp only [List.map_toArray, List.map_cons, List.map_nil]); first | done | rfl | (simp only [List.length_drop, List.length_take]; rfl)) ?_
          with_reducible refine (cloneInt.calls _ _ l1 t584 _ ?side1 ?side2 A4.out).mono ?_
          (case side1 => repeat (first | exact (Kd.C_below HR1.out HB.out) | (with_reducible refine Kd.C_alloc ?_ _) | (with_reducible refine Kd.C_drewN ?_ _) | (with_reducible refine Kd.C_drew ?_)))
          (case side2 => exact HC1.out)
          rintro e w7 ⟨v585, rfl, ho0, hb⟩
          refine ⟨_, rfl, ?_⟩
          have n0_ := Aside0.mk (Kd.R_lower ho0 (below_size (by repeat (first | (with_reducible first | exact HB.out | apply below_alloc | apply pw_below_drewN | apply below_drew1 | refine below_set ?_ GE583.out) | exact HB.out))))
          have n1_ := Aside0.mk (blk_below (g := gb583) (o := .cells #[.slice A0_0 l0_0.length c0_0, .int .i64 a0_1] 47 (0, 0)) (by (with_reducible repeat (first | refine blk_drewN ?_ _ | refine blk_drew ?_ | refine blk_alloc ?_ _)); exact BK583.out) hb)
          have n2_ := Aside0.mk (below_step (by repeat (first | (with_reducible first | exact HB.out | apply below_alloc | apply pw_below_drewN | apply below_drew1 | refine below_set ?_ GE583.out) | exact HB.out)) hb)
          clear BK583
          clear HB
          have HO586 := n0_
          have BK583 := n1_
          have HB := n2_
          clear n0_ n1_ n2_
          (try clear hb)
          (try clear hb2)
          (try clear hk)
          (try clear hi)
          (try clear ho0)
          obtain ⟨Ao8, co8, eo8⟩ := Kd.R_slice HO586.out
          (first | subst eo8 | (injection eo8 with f1_ f2_ f3_; have f4_ := f1_.symm; have f5_ := f3_.symm; clear f1_ f2_ f3_; subst f4_; subst f5_))
          refine hK.out _ _ ⟨(blk_cell BK583.out 0).trans rfl, (blk_cell BK583.out 1).trans rfl⟩ (fun hHeld => ?_)
          clear hK K
          refine norm_ (a' := ?_) ?_ ?_
          rotate_left
          · show Act.put _ (some 23) _ = _
            simp only [Act.put, List.setIfInBounds_toArray, List.set_cons_zero, List.set_cons_succ, i64_w, i32_w]
            rfl
          refine pure_ (i := 4) (N := some 24) (v := ?_) (a' := ?_) #[true, true, true, true, true, false, false] rfl rfl (by kernel_rfl) (fun _ _ _ h => h) (Or.inl ⟨by rfl, ?_⟩) ?_ ?_
          rotate_left
          · intro w'
            go_simp
            with_reducible rfl
          rotate_left
          · simp only [Act.put, List.setIfInBounds_toArray, List.set_cons_zero, List.set_cons_succ, i64_w, i32_w]
            rfl
          refine one_ (i := 5) (N := some 5) #[true, true, true, true, true, true, false] rfl rfl (by kernel_rfl) (by decide) (fun K hK => ?_)
          refine box_step ?hg (N := 5) ?hd (cs := #[.slice none 0 0, .int .i64 0, .slice none 0 0]) (t := 55) ?hr ?_; (case hd => rfl); (case hg => rfl); (case hr => first | (go_simp; done) | (go_simp; rfl))
          intro gb587 hg w9 hbox hb
          have n0_ := Aside0.mk (Kd.R_below (by (with_reducible repeat (first | apply Kd.R_alloc | apply Kd.R_drewN | apply Kd.R_drew)); exact HO586.out) hb)
          have n1_ := Aside0.mk (blk_below (g := gb583) (o := .cells #[.slice A0_0 l0_0.length c0_0, .int .i64 a0_1] 47 (0, 0)) (by (with_reducible repeat (first | refine blk_drewN ?_ _ | refine blk_drew ?_ | refine blk_alloc ?_ _)); exact BK583.out) hb)
          have n2_ := Aside0.mk (below_step (by repeat (first | (with_reducible first | exact HB.out | apply below_alloc | apply pw_below_drewN | apply below_drew1 | refine below_set ?_ GE583.out) | exact HB.out)) hb)
          have n3_ := Aside0.mk (hbox)
          have n4_ := Aside0.mk ((by rw [hg]; exact (below_size (by repeat (first | (with_reducible first | exact HB.out | apply below_alloc | apply pw_below_drewN | apply below_drew1 | refine below_set ?_ GE583.out) | exact HB.out))) : w.heap.size ≤ gb587))
          have n5_ := Aside0.mk ((by rw [hg]; exact (below_size (by repeat (first | (with_reducible first | exact HB.out | apply below_alloc | apply pw_below_drewN | apply below_drew1 | refine below_set ?_ GE583.out) | exact HB.out))) : w.heap.size ≤ gb587))
          have n6_ := Aside0.mk ((by rw [hg]; exact Nat.ne_of_lt (blk_lt (g := gb583) (o := .cells #[.slice A0_0 l0_0.length c0_0, .int .i64 a0_1] 47 (0, 0)) (by (with_reducible repeat (first | refine blk_drewN ?_ _ | refine blk_drew ?_ | refine blk_alloc ?_ _)); exact BK583.out)) : gb583 ≠ gb587))
          have n7_ := Aside0.mk ((by rw [hg]; exact Nat.ne_of_gt (blk_lt (g := gb583) (o := .cells #[.slice A0_0 l0_0.length c0_0, .int .i64 a0_1] 47 (0, 0)) (by (with_reducible repeat (first | refine blk_drewN ?_ _ | refine blk_drew ?_ | refine blk_alloc ?_ _)); exact BK583.out)) : gb587 ≠ gb583))
          clear HO586
          clear BK583
          clear HB
          have HO586 := n0_
          have BK583 := n1_
          have HB := n2_
          have BK587 := n3_
          have GW587 := n4_
          have GE587 := n5_
          have NB583_587 := n6_
          have NB587_583 := n7_
          clear n0_ n1_ n2_ n3_ n4_ n5_ n6_ n7_
          clear hb hbox hg
          refine hK.out _ _ ⟨(blk_cell BK583.out 0).trans rfl, (blk_cell BK583.out 1).trans rfl⟩ (fun hHeld => ?_)
          clear hK K
          refine norm_ (a' := ?_) ?_ ?_
          rotate_left
          · show Act.put _ (some 5) _ = _
            simp only [Act.put, List.setIfInBounds_toArray, List.set_cons_zero, List.set_cons_succ, i64_w, i32_w]
            rfl
          exact norm_ (by simp only [putAll, Act.put, List.setIfInBounds_toArray, List.set_cons_zero, List.set_cons_succ]) (hCont (.slice Ao8 t584.length co8, gb587) _ ⟨hHeld, (by (with_reducible repeat (first | apply Kd.R_alloc | apply Kd.R_drewN | apply Kd.R_drew)); exact HO586.out), (by (with_reducible repeat (first | refine blk_drewN ?_ _ | refine blk_drew ?_ | refine blk_alloc ?_ _)); exact BK583.out), (by (with_reducible repeat (first | refine blk_drewN ?_ _ | refine blk_drew ?_ | refine blk_alloc ?_ _)); exact BK587.out), GW587.out, GE587.out, NB583_587.out, NB587_583.out, (by repeat (first | (with_reducible first | exact HB.out | apply below_alloc | apply pw_below_drewN | apply below_drew1 | refine below_set ?_ GE583.out | refine below_set ?_ GE587.out) | exact HB.out))⟩)
        · skip
          refine box_step ?hg (N := 5) ?hd (cs := #[.slice none 0 0, .int .i64 0, .slice none 0 0]) (t := 55) ?hr ?_; (case hd => rfl); (case hg => rfl); (case hr => first | (go_simp; done) | (go_simp; rfl))
          intro gb587 hg w7 hbox hb
          have n0_ := Aside0.mk (blk_below (g := gb583) (o := .cells #[.slice A0_0 l0_0.length c0_0, .int .i64 a0_1] 47 (0, 0)) (by (with_reducible repeat (first | refine blk_drewN ?_ _ | refine blk_drew ?_ | refine blk_alloc ?_ _)); exact BK583.out) hb)
          have n1_ := Aside0.mk (below_step (by repeat (first | (with_reducible first | exact HB.out | apply below_alloc | apply pw_below_drewN | apply below_drew1 | refine below_set ?_ GE583.out) | exact HB.out)) hb)
          have n2_ := Aside0.mk (hbox)
          have n3_ := Aside0.mk ((by rw [hg]; exact (below_size (by repeat (first | (with_reducible first | exact HB.out | apply below_alloc | apply pw_below_drewN | apply below_drew1 | refine below_set ?_ GE583.out) | exact HB.out))) : w.heap.size ≤ gb587))
          have n4_ := Aside0.mk ((by rw [hg]; exact (below_size (by repeat (first | (with_reducible first | exact HB.out | apply below_alloc | apply pw_below_drewN | apply below_drew1 | refine below_set ?_ GE583.out) | exact HB.out))) : w.heap.size ≤ gb587))
          have n5_ := Aside0.mk ((by rw [hg]; exact Nat.ne_of_lt (blk_lt (g := gb583) (o := .cells #[.slice A0_0 l0_0.length c0_0, .int .i64 a0_1] 47 (0, 0)) (by (with_reducible repeat (first | refine blk_drewN ?_ _ | refine blk_drew ?_ | refine blk_alloc ?_ _)); exact BK583.out)) : gb583 ≠ gb587))
          have n6_ := Aside0.mk ((by rw [hg]; exact Nat.ne_of_gt (blk_lt (g := gb583) (o := .cells #[.slice A0_0 l0_0.length c0_0, .int .i64 a0_1] 47 (0, 0)) (by (with_reducible repeat (first | refine blk_drewN ?_ _ | refine blk_drew ?_ | refine blk_alloc ?_ _)); exact BK583.out)) : gb587 ≠ gb583))
          clear BK583
          clear HB
          have BK583 := n0_
          have HB := n1_
          have BK587 := n2_
          have GW587 := n3_
          have GE587 := n4_
          have NB583_587 := n5_
          have NB587_583 := n6_
          clear n0_ n1_ n2_ n3_ n4_ n5_ n6_
          clear hb hbox hg
          refine hK.out _ _ ⟨(blk_cell BK583.out 0).trans rfl, (blk_cell BK583.out 1).trans rfl⟩ (fun hHeld => ?_)
          clear hK K
          refine norm_ (a' := ?_) ?_ ?_
          rotate_left
          · show Act.put _ (some 5) _ = _
            simp only [Act.put, List.setIfInBounds_toArray, List.set_cons_zero, List.set_cons_succ, i64_w, i32_w]
            rfl
          refine one_ (i := 3) (N := some 23) #[true, true, true, true, false, true, false] rfl rfl (by kernel_rfl) (by decide) (fun K hK => ?_)
          refine goes_ Try.func76 (by kernel_rfl) rfl #[.slice A1 l1.length c1] (by rfl) rfl rfl (by (try simp only [List.map_toArray, List.map_cons, List.map_nil]); first | done | rfl | (simp only [List.length_drop, List.length_take]; rfl)) ?_
          with_reducible refine (cloneInt.calls _ _ l1 t584 _ ?side1 ?side2 A4.out).mono ?_
          (case side1 => repeat (first | exact (Kd.C_below HR1.out HB.out) | (with_reducible refine Kd.C_alloc ?_ _) | (with_reducible refine Kd.C_drewN ?_ _) | (with_reducible refine Kd.C_drew ?_)))
          (case side2 => exact HC1.out)
          rintro e w8 ⟨v585, rfl, ho0, hb⟩
          refine ⟨_, rfl, ?_⟩
          have n0_ := Aside0.mk (Kd.R_lower ho0 (below_size (by repeat (first | (with_reducible first | exact HB.out | apply below_alloc | apply pw_below_drewN | apply below_drew1 | refine below_set ?_ GE583.out | refine below_set ?_ GE587.out) | exact HB.out))))
          have n1_ := Aside0.mk (blk_below (g := gb583) (o := .cells #[.slice A0_0 l0_0.length c0_0, .int .i64 a0_1] 47 (0, 0)) (by (with_reducible repeat (first | refine blk_drewN ?_ _ | refine blk_drew ?_ | refine blk_alloc ?_ _)); exact BK583.out) hb)
          have n2_ := Aside0.mk (blk_below (g := gb587) (o := .cells #[.slice none 0 0, .int .i64 0, .slice none 0 0] 55 (0, 0)) (by (with_reducible repeat (first | refine blk_drewN ?_ _ | refine blk_drew ?_ | refine blk_alloc ?_ _)); exact BK587.out) hb)
          have n3_ := Aside0.mk (below_step (by repeat (first | (with_reducible first | exact HB.out | apply below_alloc | apply pw_below_drewN | apply below_drew1 | refine below_set ?_ GE583.out | refine below_set ?_ GE587.out) | exact HB.out)) hb)
          clear BK583
          clear BK587
          clear HB
          have HO586 := n0_
          have BK583 := n1_
          have BK587 := n2_
          have HB := n3_
          clear n0_ n1_ n2_ n3_
          (try clear hb)
          (try clear hb2)
          (try clear hk)
          (try clear hi)
          (try clear ho0)
          obtain ⟨Ao9, co9, eo9⟩ := Kd.R_slice HO586.out
          (first | subst eo9 | (injection eo9 with f1_ f2_ f3_; have f4_ := f1_.symm; have f5_ := f3_.symm; clear f1_ f2_ f3_; subst f4_; subst f5_))
          refine hK.out _ _ ⟨(blk_cell BK583.out 0).trans rfl, (blk_cell BK583.out 1).trans rfl⟩ (fun hHeld => ?_)
          clear hK K
          refine norm_ (a' := ?_) ?_ ?_
          rotate_left
          · show Act.put _ (some 23) _ = _
            simp only [Act.put, List.setIfInBounds_toArray, List.set_cons_zero, List.set_cons_succ, i64_w, i32_w]
            rfl
          refine pure_ (i := 4) (N := some 24) (v := ?_) (a' := ?_) #[true, true, true, true, true, true, false] rfl rfl (by kernel_rfl) (fun _ _ _ h => h) (Or.inl ⟨by rfl, ?_⟩) ?_ ?_
          rotate_left
          · intro w'
            go_simp
            with_reducible rfl
          rotate_left
          · simp only [Act.put, List.setIfInBounds_toArray, List.set_cons_zero, List.set_cons_succ, i64_w, i32_w]
            rfl
          exact norm_ (by simp only [putAll, Act.put, List.setIfInBounds_toArray, List.set_cons_zero, List.set_cons_succ]) (hCont (.slice Ao9 t584.length co9, gb587) _ ⟨hHeld, (by (with_reducible repeat (first | apply Kd.R_alloc | apply Kd.R_drewN | apply Kd.R_drew)); exact HO586.out), (by (with_reducible repeat (first | refine blk_drewN ?_ _ | refine blk_drew ?_ | refine blk_alloc ?_ _)); exact BK583.out), (by (with_reducible repeat (first | refine blk_drewN ?_ _ | refine blk_drew ?_ | refine blk_alloc ?_ _)); exact BK587.out), GW587.out, GE587.out, NB583_587.out, NB587_583.out, (by repeat (first | (with_reducible first | exact HB.out | apply below_alloc | apply pw_below_drewN | apply below_drew1 | refine below_set ?_ GE583.out | refine below_set ?_ GE587.out) | exact HB.out))⟩)
      rintro ⟨v585, gb587⟩ w10 ⟨hS_, h0_, h1_, h2_, h3_, h4_, h5_, h6_, h7_⟩
      have n0_ : Aside0 (Kd.R (Kd.int .i64) 3 w10 w.heap.size (fun _ => True) v585 t584) := ⟨h0_⟩
      have n1_ : Aside0 (w10.heap[gb583]? = some (.cells #[.slice A0_0 l0_0.length c0_0, .int .i64 a0_1] 47 (0, 0))) := ⟨h1_⟩
      have n2_ : Aside0 (w10.heap[gb587]? = some (.cells #[.slice none 0 0, .int .i64 0, .slice none 0 0] 55 (0, 0))) := ⟨h2_⟩
      have n3_ : Aside0 (w.heap.size ≤ gb587) := ⟨h3_⟩
      have n4_ : Aside0 (w.heap.size ≤ gb587) := ⟨h4_⟩
      have n5_ : Aside0 (gb583 ≠ gb587) := ⟨h5_⟩
      have n6_ : Aside0 (gb587 ≠ gb583) := ⟨h6_⟩
      have n7_ : Aside0 (Below w.heap.size w w10) := ⟨h7_⟩
      clear BK583
      clear HB
      clear h0_ h1_ h2_ h3_ h4_ h5_ h6_ h7_
      have HO586 := n0_
      have BK583 := n1_
      have BK587 := n2_
      have GW587 := n3_
      have GE587 := n4_
      have NB583_587 := n5_
      have NB587_583 := n6_
      have HB := n7_
      clear n0_ n1_ n2_ n3_ n4_ n5_ n6_ n7_
      have hHeld : w10.cell? ⟨gb583, 0, none⟩ = some (.slice A0_0 l0_0.length c0_0) ∧ w10.cell? ⟨gb583, 1, none⟩ = some (.int .i64 a0_1) := hS_
      obtain ⟨Ao11, co11, eo11⟩ := Kd.R_slice HO586.out
      (first | subst eo11 | (injection eo11 with f1_ f2_ f3_; have f4_ := f1_.symm; have f5_ := f3_.symm; clear f1_ f2_ f3_; subst f4_; subst f5_))
      refine norm_ (a' := ?_) ?_ ?_
      rotate_left
      · simp only [putAll, Act.put, List.setIfInBounds_toArray, List.set_cons_zero, List.set_cons_succ]
        rfl
      refine one_ (i := 6) (N := none) #[true, true, true, true, true, true, true] rfl rfl (by kernel_rfl) (by decide) (fun K hK => ?_)
      have hs12 : w10.cell? ⟨gb587, 0, none⟩ = some (.slice none 0 0) := (blk_cell BK587.out 0).trans rfl
      have hfs12 := blk_frozen BK587.out 0
      have hns12_0 := NB583_587.out
      have hms12_0 := NB587_583.out
      have hs13 : w10.cell? ⟨gb587, 1, none⟩ = some (.int .i64 0) := (blk_cell BK587.out 1).trans rfl
      have hfs13 := blk_frozen BK587.out 1
      have hns13_0 := NB583_587.out
      have hms13_0 := NB587_583.out
      have hs14 : w10.cell? ⟨gb587, 2, none⟩ = some (.slice none 0 0) := (blk_cell BK587.out 2).trans rfl
      have hfs14 := blk_frozen BK587.out 2
      have hns14_0 := NB583_587.out
      have hms14_0 := NB587_583.out
      refine skip_ (w1 := ?_) (by rfl) rfl ?_ ?_
      rotate_left
      · go_simp
        rfl
      refine hK.out _ _ ⟨((cell_far (p := ⟨gb587, _, none⟩) NB583_587.out _).trans (((cell_far (p := ⟨gb587, _, none⟩) NB583_587.out _).trans (((cell_far (p := ⟨gb587, _, none⟩) NB583_587.out _).trans (hHeld.1)))))), ((cell_far (p := ⟨gb587, _, none⟩) NB583_587.out _).trans (((cell_far (p := ⟨gb587, _, none⟩) NB583_587.out _).trans (((cell_far (p := ⟨gb587, _, none⟩) NB583_587.out _).trans (hHeld.2))))))⟩ (fun hHeld => ?_)
      clear hK K
      refine done_ (by kernel_rfl) ?_
      have hnb15 := NB583_587.out
      have hnc15 := NB587_583.out
      have hcz16_0 : w10.cell? ⟨gb583, 0, none⟩ = some (.slice A0_0 l0_0.length c0_0) := (blk_cell BK583.out 0).trans rfl
      have hcz16_1 : w10.cell? ⟨gb583, 1, none⟩ = some (.int .i64 a0_1) := (blk_cell BK583.out 1).trans rfl
      have hfz16_0 := blk_frozen BK583.out 0
      have hfz16_1 := blk_frozen BK583.out 1
      try go_wp2
      go_loopg [28] k (fun kq v28 w' => ∃ (x28_1 : Int) (x588000_1 : List (S34)) (x588001_1 : Int) (u588000 : Value), v28 = .int .i64 x28_1 ∧ Aside0 (shape_Boxes_1.l0 kq l1 l2 l0_0 (l0_0.length : Int) x28_1 x588000_1 x588001_1 t584 = some (r1, r2, r3)) ∧ Aside0 (kq ≤ k) ∧ Aside0 (Kd.R k34 34 w' w.heap.size (fun _ => True) u588000 x588000_1) ∧ Aside0 (Kd.R (Kd.int .i64) 3 w' w.heap.size (fun _ => True) (.slice Ao11 t584.length co11) t584) ∧ Aside0 (w'.heap[gb583]? = some (.cells #[(.slice A0_0 l0_0.length c0_0), .int .i64 a0_1] 47 (0, 0))) ∧ Aside0 (w'.heap[gb587]? = some (.cells #[u588000, .int .i64 x588001_1, (.slice Ao11 t584.length co11)] 55 (0, 0))) ∧ Aside0 (Below w.heap.size w w'))
      case atStart => exact ⟨(0), (([] : List (S34))), (a0_1), (.slice none 0 0), (by first | rfl | (simp; done) | (simp [*]; done)), H', ⟨Nat.le_refl _⟩, ⟨by first | exact Kd.R_nil _ _ _ _ _ | exact Kd.N_nil _ _ _ _ _ | exact Kd.V_nil _ _ _ _ _ | exact Kd.Q_nil _ _ _ _ _ | exact Kd.S_nil _ _ _ _ _⟩, ⟨by (with_reducible repeat (first | apply Kd.R_alloc | apply Kd.R_drewN | apply Kd.R_drew)); exact Kd.R_mono (Kd.R_far (p := ⟨gb587, 2, none⟩) (Kd.R_far (p := ⟨gb587, 1, none⟩) (Kd.R_far (p := ⟨gb587, 0, none⟩) (Kd.R_types HO586.out BK587.out (by decide)) (fun _ hk => hk.2) (.slice none 0 0)) (fun _ hk => hk.2) (.int .i64 a0_1)) (fun _ hk => hk.2) (.slice Ao11 t584.length co11)) (fun _ hk => trivial)⟩, ⟨by (with_reducible repeat (first | refine blk_drewN ?_ _ | refine blk_drew ?_ | refine blk_alloc ?_ _)); refine blk_far ?_ NB583_587.out _; (with_reducible repeat (first | refine blk_drewN ?_ _ | refine blk_drew ?_ | refine blk_alloc ?_ _)); refine blk_far ?_ NB583_587.out _; (with_reducible repeat (first | refine blk_drewN ?_ _ | refine blk_drew ?_ | refine blk_alloc ?_ _)); refine blk_far ?_ NB583_587.out _; (with_reducible repeat (first | refine blk_drewN ?_ _ | refine blk_drew ?_ | refine blk_alloc ?_ _)); exact BK583.out⟩, ⟨by (with_reducible repeat (first | refine blk_drewN ?_ _ | refine blk_drew ?_ | refine blk_alloc ?_ _)); refine blk_put (cs := #[.slice none 0 0, .int .i64 a0_1, .slice none 0 0]) ?_ 2 _ rfl; (with_reducible repeat (first | refine blk_drewN ?_ _ | refine blk_drew ?_ | refine blk_alloc ?_ _)); refine blk_put (cs := #[.slice none 0 0, .int .i64 0, .slice none 0 0]) ?_ 1 _ rfl; (with_reducible repeat (first | refine blk_drewN ?_ _ | refine blk_drew ?_ | refine blk_alloc ?_ _)); refine blk_put (cs := #[.slice none 0 0, .int .i64 0, .slice none 0 0]) ?_ 0 _ rfl; (with_reducible repeat (first | refine blk_drewN ?_ _ | refine blk_drew ?_ | refine blk_alloc ?_ _)); exact BK587.out⟩, ⟨by repeat (first | (with_reducible first | exact HB.out | apply below_alloc | apply pw_below_drewN | apply below_drew1 | refine below_set ?_ GE583.out | refine below_set ?_ GE587.out) | exact HB.out)⟩⟩
      case round =>
        clear H'
        try clear c1
        try clear c2
        try clear p2
        try clear c7
        try clear c15
        try clear hcz16_0
        try clear hcz16_1
        try clear hfz16_0
        try clear hfz16_1
        obtain ⟨x28_1, x588000_1, x588001_1, u588000, rfl, HA, HK1, HO_588000, HO_588002, BK583, BK587, HB⟩ := hrel
        cases gk with
        | zero => exact absurd HA.out (by simp [shape_Boxes_1.l0])
        | succ k1 =>
          have H := HA.out
          clear HA
          simp only [shape_Boxes_1.l0] at H
          by_cases c17 : x28_1 < (l0_0.length : Int)
          · rw [if_pos c17] at H
            have c17b0 : decide (x28_1 < (l0_0.length : Int)) = true := decide_eq_true c17
            clear c17
            by_cases c18 : 0 ≤ x28_1
            · rw [if_pos c18] at H
              have c18b0 : decide (0 ≤ x28_1) = true := decide_eq_true c18
              clear c18
              by_cases c19 : x28_1 < (l0_0.length : Int)
              · rw [if_pos c19] at H
                have c19b0 : decide (x28_1 < (l0_0.length : Int)) = true := decide_eq_true c19
                clear c19
                by_cases c20 : x28_1 < (l2.length : Int)
                · rw [if_pos c20] at H
                  have c20b0 : decide (x28_1 < (l2.length : Int)) = true := decide_eq_true c20
                  clear c20
                  by_cases c21 : 0 ≤ (rd l2 x28_1)
                  · rw [if_pos c21] at H
                    have c21b0 : decide (0 ≤ (rd l2 x28_1)) = true := decide_eq_true c21
                    clear c21
                    by_cases c22 : (rd l2 x28_1) < ((rd_L4 l0_0 x28_1).length : Int)
                    · rw [if_pos c22] at H
                      have c22b0 : decide ((rd l2 x28_1) < ((rd_L4 l0_0 x28_1).length : Int)) = true := decide_eq_true c22
                      clear c22
                      by_cases c23 : x588000_1.length < 8796093022208
                      · rw [if_pos c23] at H
                        have LMc23 := Aside0.mk c23
                        clear c23
                        obtain ⟨y591, hy591⟩ : ∃ y_ : List (S34), y_ = (x588000_1 ++ [(⟨(rd_T34 (rd_L4 l0_0 x28_1) (rd l2 x28_1)).f0, (rd_T34 (rd_L4 l0_0 x28_1) (rd l2 x28_1)).f1⟩ : S34)]) := ⟨_, rfl⟩
                        replace H : ((spans_Rank.f k1 (rd_L4 l0_0 x28_1) ((rd_T34 (rd_L4 l0_0 x28_1) (rd l2 x28_1)).f0)).bind fun bt596 => (if x28_1 < (l1.length : Int) then (shape_Boxes_1.l0 k1 l1 l2 l0_0 (l0_0.length : Int) (wrap64 (x28_1 + 1)) y591 (wrap64 (x588001_1 + (wrap64 (bt596.1 * (rd l1 x28_1))))) t584) else (none))) = some (r1, r2, r3) := by first | (rw [hy591]; with_reducible exact H) | (have H2_ := (Option.bind_some _ _).symm.trans H; rw [hy591]; with_reducible exact H2_) | (have H2_ := (Option.bind_some _ _).symm.trans H; with_reducible exact H2_) | with_reducible exact H | (rw [hy591]; exact H) | exact H
                        have Ny591 := Aside0.mk hy591
                        clear hy591
                        replace H := Option.bind_eq_some_iff.mp H
                        obtain ⟨⟨t596, t597⟩, A240, H⟩ := H
                        replace H : (if x28_1 < (l1.length : Int) then (shape_Boxes_1.l0 k1 l1 l2 l0_0 (l0_0.length : Int) (wrap64 (x28_1 + 1)) y591 (wrap64 (x588001_1 + (wrap64 (t596 * (rd l1 x28_1))))) t584) else (none)) = some (r1, r2, r3) := H
                        have A24 := Aside0.mk A240
                        clear A240
                        by_cases c25 : x28_1 < (l1.length : Int)
                        · rw [if_pos c25] at H
                          have c25b0 : decide (x28_1 < (l1.length : Int)) = true := decide_eq_true c25
                          clear c25
                          have H' := Aside0.mk H
                          clear H
                          have p588 : 0 ≤ (x28_1 : Int) := of_decide_eq_true (by first | (with_reducible assumption) | assumption)
                          have q588 : x28_1 < (l0_0.length : Int) := of_decide_eq_true (by first | (with_reducible assumption) | assumption)
                          obtain ⟨ad588, A588_0, c588_0, e588, hx588_0, hl588_0, hi588_0⟩ := at_L4 HR0_0.out x28_1 p588 q588
                          cases e588
                          replace hx588_0 := (HB.out.cell (World.block_lt_of_cell? w _ hx588_0)).trans hx588_0
                          have HR588_0 := Aside0.mk hi588_0
                          have HC588_0 := Aside0.mk hl588_0
                          clear hi588_0 hl588_0
                          replace p588 := eq_true p588
                          replace q588 := eq_true q588
                          try go_wp2
                          have n0_ := Aside0.mk (Kd.R_drew HO_588000.out)
                          have n1_ := Aside0.mk (Kd.R_drew HO_588002.out)
                          have n2_ := Aside0.mk (blk_drew BK583.out)
                          have n3_ := Aside0.mk (blk_drew BK587.out)
                          have n4_ := Aside0.mk (below_drew1 HB.out)
                          clear HO_588000
                          clear HO_588002
                          clear BK583
                          clear BK587
                          clear HB
                          have HO_588000 := n0_
                          have HO_588002 := n1_
                          have BK583 := n2_
                          have BK587 := n3_
                          have HB := n4_
                          clear n0_ n1_ n2_ n3_ n4_
                          have p589 : 0 ≤ (x28_1 : Int) := of_decide_eq_true (by first | (with_reducible assumption) | assumption)
                          have q589 : x28_1 < (l2.length : Int) := of_decide_eq_true (by first | (with_reducible assumption) | assumption)
                          obtain ⟨ad589, e589, hx589_0⟩ := Kd.at_int HR2.out x28_1 p589 q589
                          have hw589_0 := hx589_0
                          cases e589
                          replace hx589_0 := (HB.out.cell (World.block_lt_of_cell? w _ hx589_0)).trans hx589_0
                          replace p589 := eq_true p589
                          replace q589 := eq_true q589
                          have p590 : 0 ≤ ((rd l2 x28_1) : Int) := of_decide_eq_true (by first | (with_reducible assumption) | assumption)
                          have q590 : (rd l2 x28_1) < ((rd_L4 l0_0 x28_1).length : Int) := of_decide_eq_true (by first | (with_reducible assumption) | assumption)
                          obtain ⟨ad590, e590, hx590_0, hx590_1⟩ := at_T34 HR588_0.out (rd l2 x28_1) p590 q590
                          have hw590_1 := hx590_1
                          have hw590_0 := hx590_0
                          cases e590
                          replace hx590_0 := (HB.out.cell (World.block_lt_of_cell? w _ hx590_0)).trans hx590_0
                          replace hx590_1 := (HB.out.cell (World.block_lt_of_cell? w _ hx590_1)).trans hx590_1
                          replace p590 := eq_true p590
                          replace q590 := eq_true q590
                          refine start_ (n := 13) (S := fun w' => w'.cell? ⟨gb587, 0, none⟩ = some (u588000) ∧ w'.cell? ⟨gb587, 1, none⟩ = some (.int .i64 x588001_1) ∧ w'.cell? ⟨gb587, 2, none⟩ = some (.slice Ao11 t584.length co11) ∧ w'.cell? (ad589.add (x28_1).toNat) = some (.int .i64 (rd l2 x28_1)) ∧ w'.cell? (ad590.add (((rd l2 x28_1)).toNat * 2)) = some (.int .i64 ((rd_T34 (rd_L4 l0_0 x28_1) (rd l2 x28_1)).f0)) ∧ w'.cell? ⟨(ad590.add (((rd l2 x28_1)).toNat * 2)).block, (ad590.add (((rd l2 x28_1)).toNat * 2)).off + 1, none⟩ = some (.int .i64 ((rd_T34 (rd_L4 l0_0 x28_1) (rd l2 x28_1)).f1))) (ds := [12]) #[false, false, false, false, false, false, false, false, false, false, false, false, false] (by kernel_rfl) rfl rfl ⟨(blk_cell BK587.out 0).trans rfl, (blk_cell BK587.out 1).trans rfl, (blk_cell BK587.out 2).trans rfl, ((HB.out.cell (World.block_lt_of_cell? w _ hw589_0)).trans hw589_0), ((HB.out.cell (World.block_lt_of_cell? w _ hw590_0)).trans hw590_0), ((HB.out.cell (World.block_lt_of_cell? w _ hw590_1)).trans hw590_1)⟩ (fun hHeld => ?_); refine with_tabW shape_Boxes_1.tab7 shape_Boxes_1.bits7 (fun HT_ HW_ => ?_)
                          generalize wr.drew = w26 at HO_588000 HO_588002 BK583 BK587 HB hx589_0 hx590_0 hx590_1 hHeld ⊢
                          refine pure_ (i := 0) (N := some 33) (v := ?_) (a' := ?_) #[true, false, false, false, false, false, false, false, false, false, false, false, false] rfl rfl (any_of HT_.out (by kernel_rfl)) (fun _ _ _ h => h) (Or.inl ⟨by rfl, ?_⟩) ?_ ?_
                          rotate_left
                          · intro w'
                            go_simp
                            with_reducible rfl
                          rotate_left
                          · simp only [Act.put, List.setIfInBounds_toArray, List.set_cons_zero, List.set_cons_succ, i64_w, i32_w]
                            rfl
                          refine pure_ (i := 2) (N := some 35) (v := ?_) (a' := ?_) #[true, false, true, false, false, false, false, false, false, false, false, false, false] rfl rfl (any_of HT_.out (by kernel_rfl)) (fun _ _ _ h => h) (Or.inl ⟨by rfl, ?_⟩) ?_ ?_
                          rotate_left
                          · intro w'
                            go_simp
                            with_reducible rfl
                          rotate_left
                          · simp only [Act.put, List.setIfInBounds_toArray, List.set_cons_zero, List.set_cons_succ, i64_w, i32_w]
                            rfl
                          refine pure_ (i := 3) (N := some 36) (v := ?_) (a' := ?_) #[true, false, true, true, false, false, false, false, false, false, false, false, false] rfl rfl (any_of HT_.out (by kernel_rfl)) (fun _ _ _ h => h) (Or.inl ⟨by rfl, ?_⟩) ?_ ?_
                          rotate_left
                          · intro w'
                            go_simp
                            with_reducible rfl
                          rotate_left
                          · simp only [Act.put, List.setIfInBounds_toArray, List.set_cons_zero, List.set_cons_succ, i64_w, i32_w]
                            rfl
                          refine pure_ (i := 4) (N := some 37) (v := ?_) (a' := ?_) #[true, false, true, true, true, false, false, false, false, false, false, false, false] rfl rfl (any_of HT_.out (by kernel_rfl)) (fun _ _ _ h => h) (Or.inl ⟨by rfl, ?_⟩) ?_ ?_
                          rotate_left
                          · intro w'
                            go_simp
                            with_reducible rfl
                          rotate_left
                          · simp only [Act.put, List.setIfInBounds_toArray, List.set_cons_zero, List.set_cons_succ, i64_w, i32_w]
                            rfl
                          refine pure_ (i := 5) (N := some 38) (v := ?_) (a' := ?_) #[true, false, true, true, true, true, false, false, false, false, false, false, false] rfl rfl (any_of HT_.out (by kernel_rfl)) (fun _ _ _ h => h) (Or.inl ⟨by rfl, ?_⟩) ?_ ?_
                          rotate_left
                          · intro w'
                            go_simp
                            with_reducible rfl
                          rotate_left
                          · simp only [Act.put, List.setIfInBounds_toArray, List.set_cons_zero, List.set_cons_succ, i64_w, i32_w]
                            rfl
                          refine take_ (i := 1) (N := some 34) (v := ?_) (a' := ?_) #[true, true, true, true, true, true, false, false, false, false, false, false, false] rfl rfl (take_ofW HT_.out HW_.out (by kernel_rfl)) (fun _ _ _ h => h) (Or.inl ⟨by rfl, ?_⟩) hHeld ?_ ?_
                          rotate_left
                          · rintro w' ⟨s0, s1, s2, s3, s4, s5⟩
                            go_simp
                            with_reducible rfl
                          rotate_left
                          · simp only [Act.put, List.setIfInBounds_toArray, List.set_cons_zero, List.set_cons_succ, i64_w, i32_w]
                            rfl
                          refine take_ (i := 6) (N := some 39) (v := ?_) (a' := ?_) #[true, true, true, true, true, true, true, false, false, false, false, false, false] rfl rfl (take_ofW HT_.out HW_.out (by kernel_rfl)) (fun _ _ _ h => h) (Or.inl ⟨by rfl, ?_⟩) hHeld ?_ ?_
                          rotate_left
                          · rintro w' ⟨s0, s1, s2, s3, s4, s5⟩
                            go_simp
                            with_reducible rfl
                          rotate_left
                          · simp only [Act.put, List.setIfInBounds_toArray, List.set_cons_zero, List.set_cons_succ, i64_w, i32_w]
                            rfl
                          refine pure_ (i := 7) (N := some 40) (v := ?_) (a' := ?_) #[true, true, true, true, true, true, true, true, false, false, false, false, false] rfl rfl (any_of HT_.out (by kernel_rfl)) (fun _ _ _ h => h) (Or.inl ⟨by rfl, ?_⟩) ?_ ?_
                          rotate_left
                          · intro w'
                            go_simp
                            with_reducible rfl
                          rotate_left
                          · simp only [Act.put, List.setIfInBounds_toArray, List.set_cons_zero, List.set_cons_succ, i64_w, i32_w]
                            rfl
                          refine take_ (i := 8) (N := some 41) (v := ?_) (a' := ?_) #[true, true, true, true, true, true, true, true, true, false, false, false, false] rfl rfl (take_ofW HT_.out HW_.out (by kernel_rfl)) (fun _ _ _ h => h) (Or.inl ⟨by rfl, ?_⟩) hHeld ?_ ?_
                          rotate_left
                          · rintro w' ⟨s0, s1, s2, s3, s4, s5⟩
                            go_simp
                            with_reducible rfl
                          rotate_left
                          · simp only [Act.put, List.setIfInBounds_toArray, List.set_cons_zero, List.set_cons_succ, i64_w, i32_w]
                            rfl
                          refine one_ (i := 9) (N := some 42) #[true, true, true, true, true, true, true, true, true, true, false, false, false] rfl rfl (one_of HT_.out (by kernel_rfl)) (by decide) (fun K hK => ?_)
                          refine value_ (w1 := ?_) (v := ?_) (by rfl) rfl ?_ ?_
                          rotate_left 2
                          · go_simp
                            constructor
                            · rfl
                            · rfl
                          refine hK.out _ _ ⟨(blk_cell (blk_alloc BK587.out _) 0).trans rfl, (blk_cell (blk_alloc BK587.out _) 1).trans rfl, (blk_cell (blk_alloc BK587.out _) 2).trans rfl, (World.cell?_alloc_lt _ _ _ (World.block_lt_of_cell? _ _ (((HB.out.cell (World.block_lt_of_cell? w _ hw589_0)).trans hw589_0)))).trans (((HB.out.cell (World.block_lt_of_cell? w _ hw589_0)).trans hw589_0)), (World.cell?_alloc_lt _ _ _ (World.block_lt_of_cell? _ _ (((HB.out.cell (World.block_lt_of_cell? w _ hw590_0)).trans hw590_0)))).trans (((HB.out.cell (World.block_lt_of_cell? w _ hw590_0)).trans hw590_0)), (World.cell?_alloc_lt _ _ _ (World.block_lt_of_cell? _ _ (((HB.out.cell (World.block_lt_of_cell? w _ hw590_1)).trans hw590_1)))).trans (((HB.out.cell (World.block_lt_of_cell? w _ hw590_1)).trans hw590_1))⟩ (fun hHeld => ?_)
                          clear hK K
                          refine norm_ (a' := ?_) ?_ ?_
                          rotate_left
                          · show Act.put _ (some 42) _ = _
                            simp only [Act.put, List.setIfInBounds_toArray, List.set_cons_zero, List.set_cons_succ, i64_w, i32_w]
                            rfl
                          refine one_ (i := 10) (N := some 43) #[true, true, true, true, true, true, true, true, true, true, true, false, false] rfl rfl (one_of HT_.out (by kernel_rfl)) (by decide) (fun K hK => ?_)
                          refine Kd.R_append_step k34 (w0 := w) w.heap.size (by rfl) (.tmp 34) (.tmp 42) 22 34 (.agg #[(.int .i64 0), (.int .i64 0)]) 16 rfl Try.underlying22 info34 rfl (by decide) (by omega) u588000 x588000_1 (⟨(rd_T34 (rd_L4 l0_0 x28_1) (rd l2 x28_1)).f0, (rd_T34 (rd_L4 l0_0 x28_1) (rd l2 x28_1)).f1⟩ : S34) [.int .i64 ((rd_T34 (rd_L4 l0_0 x28_1) (rd l2 x28_1)).f0), .int .i64 ((rd_T34 (rd_L4 l0_0 x28_1) (rd l2 x28_1)).f1)] (fun _ => True) (fun _ => False) rfl rfl ?aP (fun _ hk => hk.elim) ?aF ?aO ?aB ?aS ?aL ?_
                          (case aP => exact k34_mkM _ _ _ (⟨(rd_T34 (rd_L4 l0_0 x28_1) (rd l2 x28_1)).f0, (rd_T34 (rd_L4 l0_0 x28_1) (rd l2 x28_1)).f1⟩ : S34))
                          (case aB => exact (by repeat (first | (with_reducible first | exact HB.out | apply below_alloc | apply pw_below_drewN | apply below_drew1 | refine below_set ?_ GE583.out | refine below_set ?_ GE587.out) | exact HB.out)))
                          (case aF => exact (fun _ _ => trivial))
                          (case aO => exact (by (with_reducible repeat (first | apply Kd.R_alloc | apply Kd.R_drewN | apply Kd.R_drew)); exact HO_588000.out))
                          (case aS => exact (below_size (by repeat (first | (with_reducible first | exact HB.out | apply below_alloc | apply pw_below_drewN | apply below_drew1 | refine below_set ?_ GE583.out | refine below_set ?_ GE587.out) | exact HB.out))))
                          (case aL => have := LMc23.out; omega)
                          intro v592 w27 ho hb hg hat
                          rw [← Ny591.out] at ho
                          have n0_ := Aside0.mk (Kd.R_over' (by (with_reducible repeat (first | apply Kd.R_alloc | apply Kd.R_drewN | apply Kd.R_drew)); exact HO_588002.out) (Kd.R_typed (by (with_reducible repeat (first | apply Kd.R_alloc | apply Kd.R_drewN | apply Kd.R_drew)); exact HO_588000.out)) (by decide) hg)
                          have n1_ := Aside0.mk (blk_grown (g := gb583) (o := .cells #[.slice (some ad588) l0_0.length c0_0, .int .i64 a0_1] 47 (0, 0)) (by (with_reducible repeat (first | refine blk_drewN ?_ _ | refine blk_drew ?_ | refine blk_alloc ?_ _)); exact BK583.out) hg (Kd.R_ne HO_588000.out BK583.out (by decide)))
                          have n2_ := Aside0.mk (blk_grown (g := gb587) (o := .cells #[u588000, .int .i64 x588001_1, .slice Ao11 t584.length co11] 55 (0, 0)) (by (with_reducible repeat (first | refine blk_drewN ?_ _ | refine blk_drew ?_ | refine blk_alloc ?_ _)); exact BK587.out) hg (Kd.R_ne HO_588000.out BK587.out (by decide)))
                          have n3_ := Aside0.mk (hb)
                          have n4_ := Aside0.mk (ho)
                          clear HO_588002
                          clear BK583
                          clear BK587
                          clear HB
                          clear HO_588000
                          have HO_588002 := n0_
                          have BK583 := n1_
                          have BK587 := n2_
                          have HB := n3_
                          have HO593 := n4_
                          clear n0_ n1_ n2_ n3_ n4_
                          clear ho hb hg hat
                          obtain ⟨Ao28, co28, eo28⟩ := Kd.R_slice HO593.out
                          (first | subst eo28 | (injection eo28 with f1_ f2_ f3_; have f4_ := f1_.symm; have f5_ := f3_.symm; clear f1_ f2_ f3_; subst f4_; subst f5_))
                          refine hK.out _ _ ⟨(blk_cell BK587.out 0).trans rfl, (blk_cell BK587.out 1).trans rfl, (blk_cell BK587.out 2).trans rfl, ((HB.out.cell (World.block_lt_of_cell? w _ hw589_0)).trans hw589_0), ((HB.out.cell (World.block_lt_of_cell? w _ hw590_0)).trans hw590_0), ((HB.out.cell (World.block_lt_of_cell? w _ hw590_1)).trans hw590_1)⟩ (fun hHeld => ?_)
                          clear hK K
                          refine norm_ (a' := ?_) ?_ ?_
                          rotate_left
                          · show Act.put _ (some 43) _ = _
                            simp only [Act.put, List.setIfInBounds_toArray, List.set_cons_zero, List.set_cons_succ, i64_w, i32_w]
                            rfl
                          refine pure_ (i := 11) (N := some 44) (v := ?_) (a' := ?_) #[true, true, true, true, true, true, true, true, true, true, true, true, false] rfl rfl (any_of HT_.out (by kernel_rfl)) (fun _ _ _ h => h) (Or.inl ⟨by rfl, ?_⟩) ?_ ?_
                          rotate_left
                          · intro w'
                            go_simp
                            with_reducible rfl
                          rotate_left
                          · simp only [Act.put, List.setIfInBounds_toArray, List.set_cons_zero, List.set_cons_succ, i64_w, i32_w]
                            rfl
                          refine last_ (i := 12) (N := none) #[true, true, true, true, true, true, true, true, true, true, true, true, true] rfl rfl (one_of HT_.out (by kernel_rfl)) (by decide) (fun K hK => ?_)
                          have hs29 : w27.cell? ⟨gb587, 0, none⟩ = some (u588000) := (blk_cell BK587.out 0).trans rfl
                          have hfs29 := blk_frozen BK587.out 0
                          have hns29_0 := NB583_587.out
                          have hms29_0 := NB587_583.out
                          refine skip_ (w1 := ?_) (by rfl) rfl ?_ ?_
                          rotate_left
                          · go_simp
                            rfl
                          refine hK.out _ _ ?_
                          clear hK K
                          refine done_ (done_of HT_.out (by kernel_rfl)) ?_
                          have p594 : 0 ≤ (x28_1 : Int) := of_decide_eq_true (by first | (with_reducible assumption) | assumption)
                          have q594 : x28_1 < (l2.length : Int) := of_decide_eq_true (by first | (with_reducible assumption) | assumption)
                          obtain ⟨ad594, e594, hx594_0⟩ := Kd.at_int HR2.out x28_1 p594 q594
                          obtain rfl : ad589 = ad594 := (by injection e594)
                          have hn594_0 : ad589.block ≠ gb587 := Nat.ne_of_lt (Nat.lt_of_lt_of_le (by have := World.block_lt_of_cell? _ _ hx594_0; first | rwa [add_block] at this | exact this) GW587.out)
                          replace hx594_0 := (HB.out.cell (World.block_lt_of_cell? w _ hx594_0)).trans hx594_0
                          replace hx594_0 := (cell_far (p := ⟨gb587, 0, none⟩) (by first | (rw [add_block]; exact hn594_0) | (show (Addr.add _ _).block ≠ _; rw [add_block]; exact hn594_0) | exact hn594_0) (.slice Ao28 y591.length co28)).trans hx594_0
                          clear hn594_0
                          replace p594 := eq_true p594
                          replace q594 := eq_true q594
                          have p595 : 0 ≤ ((rd l2 x28_1) : Int) := of_decide_eq_true (by first | (with_reducible assumption) | assumption)
                          have q595 : (rd l2 x28_1) < ((rd_L4 l0_0 x28_1).length : Int) := of_decide_eq_true (by first | (with_reducible assumption) | assumption)
                          obtain ⟨ad595, e595, hx595_0, hx595_1⟩ := at_T34 HR588_0.out (rd l2 x28_1) p595 q595
                          obtain rfl : ad590 = ad595 := (by injection e595)
                          have hn595_0 : ad590.block ≠ gb587 := Nat.ne_of_lt (Nat.lt_of_lt_of_le (by have := World.block_lt_of_cell? _ _ hx595_0; first | rwa [add_block] at this | exact this) GW587.out)
                          replace hx595_0 := (HB.out.cell (World.block_lt_of_cell? w _ hx595_0)).trans hx595_0
                          replace hx595_1 := (HB.out.cell (World.block_lt_of_cell? w _ hx595_1)).trans hx595_1
                          replace hx595_0 := (cell_far (p := ⟨gb587, 0, none⟩) (by first | (rw [add_block]; exact hn595_0) | (show (Addr.add _ _).block ≠ _; rw [add_block]; exact hn595_0) | exact hn595_0) (.slice Ao28 y591.length co28)).trans hx595_0
                          replace hx595_1 := (cell_far (p := ⟨gb587, 0, none⟩) (by first | (rw [add_block]; exact hn595_0) | (show (Addr.add _ _).block ≠ _; rw [add_block]; exact hn595_0) | exact hn595_0) (.slice Ao28 y591.length co28)).trans hx595_1
                          clear hn595_0
                          replace p595 := eq_true p595
                          replace q595 := eq_true q595
                          try go_wp2_with (first | ((with_reducible refine gate_callee (f := 77) rfl ?_); refine goesL_ (some 55) rfl rfl Try.func77 (by kernel_rfl) rfl #[.slice (some ad590) (rd_L4 l0_0 x28_1).length c588_0, .int .i64 ((rd_T34 (rd_L4 l0_0 x28_1) (rd l2 x28_1)).f0)] rfl (by (try simp only [List.map_toArray, List.map_cons, List.map_nil]); first | done | rfl | (simp only [List.length_drop, List.length_take]; rfl)) ?_; (with_reducible refine (spans_Rank.calls k1 _ _ (rd_L4 l0_0 x28_1) ((rd_T34 (rd_L4 l0_0 x28_1) (rd l2 x28_1)).f0) t596 t597 _ ?side1 ?side2 A24.out).mono ?_); (case side1 => exact Kd.C_below HR588_0.out (by repeat (first | (with_reducible first | exact HB.out | apply below_alloc | apply pw_below_drewN | apply below_drew1 | refine below_set ?_ GE583.out | refine below_set ?_ GE587.out) | exact HB.out))); (case side2 => exact HC588_0.out); rintro e w30 ⟨rfl, hb⟩; refine ⟨_, rfl, ?_⟩; have n0_ := Aside0.mk (Kd.R_below (by (with_reducible repeat (first | apply Kd.R_alloc | apply Kd.R_drewN | apply Kd.R_drew)); exact (Kd.R_mono (Kd.R_far (p := ⟨gb587, 0, none⟩) (Kd.R_types HO_588002.out BK587.out (by decide)) (fun _ hk => hk.2) (.slice Ao28 y591.length co28)) (fun _ h_ => h_.1))) hb); have n1_ := Aside0.mk (Kd.R_below (by (with_reducible repeat (first | apply Kd.R_alloc | apply Kd.R_drewN | apply Kd.R_drew)); exact (Kd.R_mono (Kd.R_far (p := ⟨gb587, 0, none⟩) (Kd.R_types HO593.out BK587.out (by decide)) (fun _ hk => hk.2) (.slice Ao28 y591.length co28)) (fun _ h_ => h_.1))) hb); have n2_ := Aside0.mk (blk_below (g := gb583) (o := .cells #[.slice (some ad588) l0_0.length c0_0, .int .i64 a0_1] 47 (0, 0)) (by (with_reducible repeat (first | refine blk_drewN ?_ _ | refine blk_drew ?_ | refine blk_alloc ?_ _)); refine blk_far ?_ NB583_587.out _; (with_reducible repeat (first | refine blk_drewN ?_ _ | refine blk_drew ?_ | refine blk_alloc ?_ _)); exact BK583.out) hb); have n3_ := Aside0.mk (blk_below (g := gb587) (o := .cells #[.slice Ao28 y591.length co28, .int .i64 x588001_1, .slice Ao11 t584.length co11] 55 (0, 0)) (by (with_reducible repeat (first | refine blk_drewN ?_ _ | refine blk_drew ?_ | refine blk_alloc ?_ _)); refine blk_put (cs := #[u588000, .int .i64 x588001_1, .slice Ao11 t584.length co11]) ?_ 0 _ rfl; (with_reducible repeat (first | refine blk_drewN ?_ _ | refine blk_drew ?_ | refine blk_alloc ?_ _)); exact BK587.out) hb); have n4_ := Aside0.mk (below_step (by repeat (first | (with_reducible first | exact HB.out | apply below_alloc | apply pw_below_drewN | apply below_drew1 | refine below_set ?_ GE583.out | refine below_set ?_ GE587.out) | exact HB.out)) hb); clear HO_588002; clear HO593; clear BK583; clear BK587; clear HB; have HO_588002 := n0_; have HO593 := n1_; have BK583 := n2_; have BK587 := n3_; have HB := n4_; clear n0_ n1_ n2_ n3_ n4_; (try clear hb); (try clear hb2); (try clear hk); (try clear hi)))
                          have n0_ := Aside0.mk (Kd.R_drew HO_588002.out)
                          have n1_ := Aside0.mk (Kd.R_drew HO593.out)
                          have n2_ := Aside0.mk (blk_drew BK583.out)
                          have n3_ := Aside0.mk (blk_drew BK587.out)
                          have n4_ := Aside0.mk (below_drew1 HB.out)
                          clear HO_588002
                          clear HO593
                          clear BK583
                          clear BK587
                          clear HB
                          have HO_588002 := n0_
                          have HO593 := n1_
                          have BK583 := n2_
                          have BK587 := n3_
                          have HB := n4_
                          clear n0_ n1_ n2_ n3_ n4_
                          have p598 : 0 ≤ (x28_1 : Int) := of_decide_eq_true (by first | (with_reducible assumption) | assumption)
                          have q598 : x28_1 < (l1.length : Int) := of_decide_eq_true (by first | (with_reducible assumption) | assumption)
                          obtain ⟨ad598, e598, hx598_0⟩ := Kd.at_int HR1.out x28_1 p598 q598
                          have hw598_0 := hx598_0
                          cases e598
                          replace hx598_0 := (HB.out.cell (World.block_lt_of_cell? w _ hx598_0)).trans hx598_0
                          replace p598 := eq_true p598
                          replace q598 := eq_true q598
                          refine start_ (n := 11) (S := fun w' => w'.cell? ⟨gb587, 0, none⟩ = some (.slice Ao28 y591.length co28) ∧ w'.cell? ⟨gb587, 1, none⟩ = some (.int .i64 x588001_1) ∧ w'.cell? ⟨gb587, 2, none⟩ = some (.slice Ao11 t584.length co11) ∧ w'.cell? (ad598.add (x28_1).toNat) = some (.int .i64 (rd l1 x28_1))) (ds := [10]) #[false, false, false, false, false, false, false, false, false, false, false] (by kernel_rfl) rfl rfl ⟨(blk_cell BK587.out 0).trans rfl, (blk_cell BK587.out 1).trans rfl, (blk_cell BK587.out 2).trans rfl, ((HB.out.cell (World.block_lt_of_cell? w _ hw598_0)).trans hw598_0)⟩ (fun hHeld => ?_); refine with_tabW shape_Boxes_1.tab9 shape_Boxes_1.bits9 (fun HT_ HW_ => ?_)
                          generalize w30.drew = w31 at HO_588002 HO593 BK583 BK587 HB hx598_0 hHeld ⊢
                          refine pure_ (i := 0) (N := some 58) (v := ?_) (a' := ?_) #[true, false, false, false, false, false, false, false, false, false, false] rfl rfl (any_of HT_.out (by kernel_rfl)) (fun _ _ _ h => h) (Or.inl ⟨by rfl, ?_⟩) ?_ ?_
                          rotate_left
                          · intro w'
                            go_simp
                            with_reducible rfl
                          rotate_left
                          · simp only [Act.put, List.setIfInBounds_toArray, List.set_cons_zero, List.set_cons_succ, i64_w, i32_w]
                            rfl
                          refine pure_ (i := 2) (N := some 60) (v := ?_) (a' := ?_) #[true, false, true, false, false, false, false, false, false, false, false] rfl rfl (any_of HT_.out (by kernel_rfl)) (fun _ _ _ h => h) (Or.inl ⟨by rfl, ?_⟩) ?_ ?_
                          rotate_left
                          · intro w'
                            go_simp
                            with_reducible rfl
                          rotate_left
                          · simp only [Act.put, List.setIfInBounds_toArray, List.set_cons_zero, List.set_cons_succ, i64_w, i32_w]
                            rfl
                          refine pure_ (i := 3) (N := some 61) (v := ?_) (a' := ?_) #[true, false, true, true, false, false, false, false, false, false, false] rfl rfl (any_of HT_.out (by kernel_rfl)) (fun _ _ _ h => h) (Or.inl ⟨by rfl, ?_⟩) ?_ ?_
                          rotate_left
                          · intro w'
                            go_simp
                            with_reducible rfl
                          rotate_left
                          · simp only [Act.put, List.setIfInBounds_toArray, List.set_cons_zero, List.set_cons_succ, i64_w, i32_w]
                            rfl
                          refine pure_ (i := 4) (N := some 62) (v := ?_) (a' := ?_) #[true, false, true, true, true, false, false, false, false, false, false] rfl rfl (any_of HT_.out (by kernel_rfl)) (fun _ _ _ h => h) (Or.inl ⟨by rfl, ?_⟩) ?_ ?_
                          rotate_left
                          · intro w'
                            go_simp
                            with_reducible rfl
                          rotate_left
                          · simp only [Act.put, List.setIfInBounds_toArray, List.set_cons_zero, List.set_cons_succ, i64_w, i32_w]
                            rfl
                          refine pure_ (i := 5) (N := some 63) (v := ?_) (a' := ?_) #[true, false, true, true, true, true, false, false, false, false, false] rfl rfl (any_of HT_.out (by kernel_rfl)) (fun _ _ _ h => h) (Or.inl ⟨by rfl, ?_⟩) ?_ ?_
                          rotate_left
                          · intro w'
                            go_simp
                            with_reducible rfl
                          rotate_left
                          · simp only [Act.put, List.setIfInBounds_toArray, List.set_cons_zero, List.set_cons_succ, i64_w, i32_w]
                            rfl
                          refine take_ (i := 1) (N := some 59) (v := ?_) (a' := ?_) #[true, true, true, true, true, true, false, false, false, false, false] rfl rfl (take_ofW HT_.out HW_.out (by kernel_rfl)) (fun _ _ _ h => h) (Or.inl ⟨by rfl, ?_⟩) hHeld ?_ ?_
                          rotate_left
                          · rintro w' ⟨s0, s1, s2, s3⟩
                            go_simp
                            with_reducible rfl
                          rotate_left
                          · simp only [Act.put, List.setIfInBounds_toArray, List.set_cons_zero, List.set_cons_succ, i64_w, i32_w]
                            rfl
                          refine take_ (i := 6) (N := some 64) (v := ?_) (a' := ?_) #[true, true, true, true, true, true, true, false, false, false, false] rfl rfl (take_ofW HT_.out HW_.out (by kernel_rfl)) (fun _ _ _ h => h) (Or.inl ⟨by rfl, ?_⟩) hHeld ?_ ?_
                          rotate_left
                          · rintro w' ⟨s0, s1, s2, s3⟩
                            go_simp
                            with_reducible rfl
                          rotate_left
                          · simp only [Act.put, List.setIfInBounds_toArray, List.set_cons_zero, List.set_cons_succ, i64_w, i32_w]
                            rfl
                          refine pure_ (i := 7) (N := some 65) (v := ?_) (a' := ?_) #[true, true, true, true, true, true, true, true, false, false, false] rfl rfl (any_of HT_.out (by kernel_rfl)) (fun _ _ _ h => h) (Or.inl ⟨by rfl, ?_⟩) ?_ ?_
                          rotate_left
                          · intro w'
                            go_simp
                            with_reducible rfl
                          rotate_left
                          · simp only [Act.put, List.setIfInBounds_toArray, List.set_cons_zero, List.set_cons_succ, i64_w, i32_w]
                            rfl
                          refine pure_ (i := 8) (N := some 66) (v := ?_) (a' := ?_) #[true, true, true, true, true, true, true, true, true, false, false] rfl rfl (any_of HT_.out (by kernel_rfl)) (fun _ _ _ h => h) (Or.inl ⟨by rfl, ?_⟩) ?_ ?_
                          rotate_left
                          · intro w'
                            go_simp
                            with_reducible rfl
                          rotate_left
                          · simp only [Act.put, List.setIfInBounds_toArray, List.set_cons_zero, List.set_cons_succ, i64_w, i32_w]
                            rfl
                          refine pure_ (i := 9) (N := some 67) (v := ?_) (a' := ?_) #[true, true, true, true, true, true, true, true, true, true, false] rfl rfl (any_of HT_.out (by kernel_rfl)) (fun _ _ _ h => h) (Or.inl ⟨by rfl, ?_⟩) ?_ ?_
                          rotate_left
                          · intro w'
                            go_simp
                            with_reducible rfl
                          rotate_left
                          · simp only [Act.put, List.setIfInBounds_toArray, List.set_cons_zero, List.set_cons_succ, i64_w, i32_w]
                            rfl
                          refine last_ (i := 10) (N := none) #[true, true, true, true, true, true, true, true, true, true, true] rfl rfl (one_of HT_.out (by kernel_rfl)) (by decide) (fun K hK => ?_)
                          have hs32 : w31.cell? ⟨gb587, 1, none⟩ = some (.int .i64 x588001_1) := (blk_cell BK587.out 1).trans rfl
                          have hfs32 := blk_frozen BK587.out 1
                          have hns32_0 := NB583_587.out
                          have hms32_0 := NB587_583.out
                          refine skip_ (w1 := ?_) (by rfl) rfl ?_ ?_
                          rotate_left
                          · go_simp
                            rfl
                          refine hK.out _ _ ?_
                          clear hK K
                          refine done_ (done_of HT_.out (by kernel_rfl)) ?_
                          try go_wp2
                          go_roundg k1
                          case measure => have := HK1.out; omega
                          case rel => exact ⟨(wrap64 (x28_1 + 1)), (y591), (wrap64 (x588001_1 + (wrap64 (t596 * (rd l1 x28_1))))), (.slice Ao28 y591.length co28), (by first | rfl | (simp; done) | (simp [*]; done)), H', ⟨by have := HK1.out; omega⟩, ⟨by (with_reducible repeat (first | apply Kd.R_alloc | apply Kd.R_drewN | apply Kd.R_drew)); exact Kd.R_mono (Kd.R_far (p := ⟨gb587, 1, none⟩) (Kd.R_types HO593.out BK587.out (by decide)) (fun _ hk => hk.2) (.int .i64 (wrap64 (x588001_1 + (wrap64 (t596 * (rd l1 x28_1))))))) (fun _ hk => trivial)⟩, ⟨by (with_reducible repeat (first | apply Kd.R_alloc | apply Kd.R_drewN | apply Kd.R_drew)); exact Kd.R_mono (Kd.R_far (p := ⟨gb587, 1, none⟩) (Kd.R_types HO_588002.out BK587.out (by decide)) (fun _ hk => hk.2) (.int .i64 (wrap64 (x588001_1 + (wrap64 (t596 * (rd l1 x28_1))))))) (fun _ hk => trivial)⟩, ⟨by (with_reducible repeat (first | refine blk_drewN ?_ _ | refine blk_drew ?_ | refine blk_alloc ?_ _)); refine blk_far ?_ NB583_587.out _; (with_reducible repeat (first | refine blk_drewN ?_ _ | refine blk_drew ?_ | refine blk_alloc ?_ _)); exact BK583.out⟩, ⟨by (with_reducible repeat (first | refine blk_drewN ?_ _ | refine blk_drew ?_ | refine blk_alloc ?_ _)); refine blk_put (cs := #[.slice Ao28 y591.length co28, .int .i64 x588001_1, .slice Ao11 t584.length co11]) ?_ 1 _ rfl; (with_reducible repeat (first | refine blk_drewN ?_ _ | refine blk_drew ?_ | refine blk_alloc ?_ _)); exact BK587.out⟩, ⟨by repeat (first | (with_reducible first | exact HB.out | apply below_alloc | apply pw_below_drewN | apply below_drew1 | refine below_set ?_ GE583.out | refine below_set ?_ GE587.out) | exact HB.out)⟩⟩
                        · rw [if_neg c25] at H
                          exact absurd H (by simp)
                      · rw [if_neg c23] at H
                        exact absurd H (by simp)
                    · rw [if_neg c22] at H
                      exact absurd H (by simp)
                  · rw [if_neg c21] at H
                    exact absurd H (by simp)
                · rw [if_neg c20] at H
                  exact absurd H (by simp)
              · rw [if_neg c19] at H
                exact absurd H (by simp)
            · rw [if_neg c18] at H
              exact absurd H (by simp)
          · rw [if_neg c17] at H
            have c17b0 : decide (x28_1 < (l0_0.length : Int)) = false := decide_eq_false c17
            clear c17
            simp only [Option.some.injEq, Prod.mk.injEq] at H
            obtain ⟨rfl, rfl, rfl⟩ := H
            have hnb33 := NB587_583.out
            have hnc33 := NB583_587.out
            have hcz34_0 : wr.cell? ⟨gb587, 0, none⟩ = some (u588000) := (blk_cell BK587.out 0).trans rfl
            have hcz34_1 : wr.cell? ⟨gb587, 1, none⟩ = some (.int .i64 x588001_1) := (blk_cell BK587.out 1).trans rfl
            have hcz34_2 : wr.cell? ⟨gb587, 2, none⟩ = some (.slice Ao11 t584.length co11) := (blk_cell BK587.out 2).trans rfl
            have hfz34_0 := blk_frozen BK587.out 0
            have hfz34_1 := blk_frozen BK587.out 1
            have hfz34_2 := blk_frozen BK587.out 2
            obtain ⟨Aa, ca, ea, hca, hCa⟩ := Kd.R_reads HO_588000.out
            subst ea
            have hCs := (Kd.R_reads' HO_588002.out)
            have HBE := Aside0.mk (HBW.out.trans (HB.out.mono HBW.out.size))
            have HSE := Aside0.mk (Nat.le_trans HSZ.out HB.out.size)
            have HGE := Aside0.mk ((HB.out.block ga (blk_lt HGA.out)).trans HGA.out)
            have HRE := Aside0.mk (Kd.C_below HR1.out HB.out)
            have HJE := Aside0.mk (HJ.out G G pre w wr HJ1.out (fun k h => (HGw.out k h).1) (GrownG.of_below HB.out) (fun k h => .inl h))
            have hyy := HY.out G pre ⟨Aa, ca, x588000_1, x588001_1, Ao11, co11, t584⟩ wr (fun k h => ⟨(HGw.out k h).1, Nat.lt_of_le_of_lt (HGw.out k h).2 (blk_lt HGE.out)⟩) HJE.out ⟨by have := HI.out; omega, by rw [HI.out.2.2, ← HBX.out], hCa, hca, hCs.2.2, hCs.2.1⟩
            simp only [encB] at hyy
            obtain ⟨fn, tmps, assign, body, hy, hR⟩ := hyy
            clear hCa hca hCs
            refine (wpIn_wide (n := n)).1 ?_
            gi_wp2
            refine (wpIn_wide (n := n)).1 ?_
            gi_wp2
            refine ⟨fun _ => HN.out, hR.mono ?_⟩
            have eA2 := HA2.out
            subst eA2
            clear hcz34_0 hcz34_1 hcz34_2 hfz34_0 hfz34_1 hfz34_2 c17b0
            rintro e W3 (⟨rfl, hJ3, hb3, hg3⟩ | ⟨rfl, hJx3⟩)
            · have HB3 := Aside0.mk (HBE.out.trans hb3)
              have HS3 := Aside0.mk (Nat.le_trans HSE.out hb3.size)
              have HG3 := Aside0.mk ((hg3 ga HGa.out).trans HGE.out)
              have HR3 := Aside0.mk (C_ints_kept HRE.out (fun ad e => hg3 _ (HGs.out ad.block (by rw [e]; rfl))))
              have HJ3 := Aside0.mk hJ3
              have HGG := Aside0.mk (Nat.le_trans HW0.out.size HGL.out)
              clear hJ3 hb3 hg3 hR hy
              have hbk := blk_below HGB.out HB3.out
              have hcz9_0 : W3.cell? ⟨gb583, 0, none⟩ = some (.slice A0_0 l0_0.length c0_0) := (blk_cell hbk 0).trans rfl
              have hcz9_1 : W3.cell? ⟨gb583, 1, none⟩ = some (.int .i64 a0_1) := (blk_cell hbk 1).trans rfl
              clear hbk
              by_cases hlast : i + 1 < N
              · have HNX2 := Aside0.mk (show nextF l0_0 l0_0.length l2 = (true, ats (i + 1)) by rw [HNX.out, decide_eq_true hlast])
                have HLT := Aside0.mk hlast
                clear hlast
                gi_wp2_with (first | (refine ⟨trivial, fun _ => HN.out, ?_⟩; gi_at_call 78; with_reducible refine (callsIn_wide.2 (shape_nextG.calls A0_0 c0_0 l0_0 a0_1 ga l2 w00 _ HC00.out HB3.out HGG.out HLN.out (by have := HMK.out; omega) HG3.out)).mono ?_; rintro e W4 ⟨rfl, hg4, hb4, hs4, ho4⟩; rw [HNX2.out] at hg4 ⊢; have HG4 := Aside0.mk hg4; have HB4 := Aside0.mk hb4; have HS4 := Aside0.mk hs4; have HO4 := Aside0.mk ho4; clear hg4 hb4 hs4 ho4))
                cases gk with
                | zero => exact absurd HI.out (by omega)
                | succ kk =>
                  go_roundg kk
                  case measure => omega
                  case rel => exact ⟨i + 1, pre ++ [_], ⟨by have := HI.out; omega, by have := HI.out; have := HLT.out; omega, by simp [HI.out.2.2]⟩, ⟨HJ.out G G _ _ _ HJ3.out (fun k h => (HGw.out k h).1) ⟨HB4.out.os.trans HB3.out.os.symm, HB4.out.tape.trans HB3.out.tape.symm, HB4.out.output.trans HB3.out.output.symm, HS4.out, fun k hk h => HO4.out k hk (fun e => h (by rw [e]; exact HGa.out))⟩ (fun k h => .inl h)⟩, HG4, ⟨C_ints_kept HR3.out (fun ad e => HO4.out _ (by have := HGQ.out ad.block (by rw [e]; rfl); have := blk_lt HG3.out; omega) (fun h => by have := HGQ.out ad.block (by rw [e]; rfl); omega))⟩, HB4, ⟨Nat.le_trans HS3.out HS4.out⟩⟩
              · have HNX2 := Aside0.mk (show nextF l0_0 l0_0.length l2 = (false, ats (i + 1)) by rw [HNX.out, decide_eq_false hlast])
                have HLT := Aside0.mk hlast
                clear hlast
                gi_wp2_with (first | (refine ⟨trivial, fun _ => HN.out, ?_⟩; gi_at_call 78; with_reducible refine (callsIn_wide.2 (shape_nextG.calls A0_0 c0_0 l0_0 a0_1 ga l2 w00 _ HC00.out HB3.out HGG.out HLN.out (by have := HMK.out; omega) HG3.out)).mono ?_; rintro e W4 ⟨rfl, hg4, hb4, hs4, ho4⟩; rw [HNX2.out] at hg4 ⊢; have HG4 := Aside0.mk hg4; have HB4 := Aside0.mk hb4; have HS4 := Aside0.mk hs4; have HO4 := Aside0.mk ho4; clear hg4 hb4 hs4 ho4))
                refine bodyPost_ret (results_none rfl _ _ _) rfl ?_
                exact ⟨⟨_, rfl⟩, G, fun k h => (HGw.out k h).1, .inl ⟨pre ++ [_], by simp; have := HI.out; have := HLT.out; omega, HJ.out G G _ _ _ HJ3.out (fun k h => (HGw.out k h).1) ⟨HB4.out.os.trans HB3.out.os.symm, HB4.out.tape.trans HB3.out.tape.symm, HB4.out.output.trans HB3.out.output.symm, HS4.out, fun k hk h => HO4.out k hk (fun e => h (by rw [e]; exact HGa.out))⟩ (fun k h => .inl h)⟩⟩
            · have HX3 := Aside0.mk hJx3
              clear hJx3 hR hy
              gi_wp2
              refine ⟨trivial, ?_⟩
              gi_wp2
              refine bodyPost_ret (results_none rfl _ _ _) rfl ?_
              exact ⟨⟨_, rfl⟩, G, fun k h => (HGw.out k h).1, .inr ⟨pre ++ [_], by simp; have := HI.out; omega, HX3.out⟩⟩
theorem C_one {W : World} {g : Nat} {A0 : Option Addr} {c0 : Nat} {l : List (List S34)} {a : Int} (h : W.heap[g]? = some (.cells #[.slice A0 l.length c0, .int .i64 a] 47 (0, 0))) (hC : Kd.C (Kd.slice 34 k34) W A0 l.length l) (hc : l.length ≤ c0) : Kd.C k47 W (some ⟨g, 0, none⟩) 1 [⟨l, a⟩] :=
  ⟨rfl, by decide, fun _ => ⟨_, rfl, fun j p hj => ⟨[.slice A0 l.length c0, .int .i64 a], by
    match j, hj with
    | 0, hj =>
      have e : p = ⟨l, a⟩ := by simpa using hj.symm
      subst e
      refine ⟨rfl, k47_mk W ⟨l, a⟩ hc hC, fun i u hu => ?_⟩
      match i, hu with
      | 0, hu =>
        have e : u = .slice A0 l.length c0 := by simpa using hu.symm
        rw [e]
        exact (blk_cell h 0).trans rfl
      | 1, hu =>
        have e : u = .int .i64 a := by simpa using hu.symm
        rw [e]
        exact (blk_cell h 1).trans rfl⟩⟩⟩
theorem run_field69 (v : Value) (w : World) : (Instr.field 69 (.agg #[v]) 0).run Try.prog w = .ok v w := by
  unfold Instr.field
  simp [run_underlying Try.underlying69, part, isAgg, run_underlying Try.underlying67, asAgg, go_sem]
set_option maxHeartbeats 4000000 in
set_option maxRecDepth 100000 in
theorem shape_Boxes.calls (k : Nat) (A0_0 : Option Addr) (c0_0 : Nat) (l0_0 : List (List S34)) (a0_1 : Int) (l' : List (List S34)) (f' : Int) (w : World) (hC : Kd.C (Kd.slice 34 k34) w A0_0 l0_0.length l0_0) (hc : l0_0.length ≤ c0_0) (h : scheme_Copy.f k [⟨l0_0, a0_1⟩] = some [⟨l', f'⟩]) :
    Calls Try.prog 30 #[.agg #[.slice A0_0 l0_0.length c0_0, .int .i64 a0_1]] w fun e w' => ∃ gb A c, e = .returned (.func (.func 73) #[] #[.pointer (some ⟨gb, 0, none⟩)]) ∧ w'.heap[gb]? = some (.cells #[.slice A l'.length c, .int .i64 f'] 47 (0, 0)) ∧ Kd.C (Kd.slice 34 k34) w' A l'.length l' ∧ l'.length ≤ c ∧ Below w.heap.size w w' := by
  have hu47 := Try.underlying47
  have hu67 := Try.underlying67
  have hu69 := Try.underlying69
  have hf69 := run_field69
  have HC := Aside0.mk hC
  have HCC := Aside0.mk hc
  have HH := Aside0.mk h
  clear hC hc h
  have b1 : Below w.heap.size w (w.alloc (.cells #[.slice A0_0 l0_0.length c0_0, .int .i64 a0_1] 47)) := (Below.refl _ w).alloc (Nat.le_refl _) _
  have b2 := b1.alloc (Nat.le_of_lt (by simp)) (.cells #[.slice A0_0 l0_0.length c0_0, .int .i64 a0_1] 47)
  have HS := Aside0.mk (scheme_Copy.calls k _ 1 [⟨l0_0, a0_1⟩] _ _ (C_one (blk_new2 w (.cells #[.slice A0_0 l0_0.length c0_0, .int .i64 a0_1] 47) (.cells #[.slice A0_0 l0_0.length c0_0, .int .i64 a0_1] 47)) (Kd.C_below HC.out b2) HCC.out) (Nat.le_refl _) HH.out)
  have B2 := Aside0.mk b2
  clear b1 b2
  go_enter Try.func30, Try.ntmps30
  go_wp2_with (first | (go_at_call 72; refine HS.out.mono ?_; rintro e w1 ⟨v, rfl, ho, hb⟩; obtain ⟨Ao, co, eo⟩ := Kd.R_slice ho; subst eo; have HO := Aside0.mk (Kd.R_bound ho); have hr := Kd.R_reads' ho; obtain ⟨ad, A', c', eAd, hx0, hx1, hc', hC'⟩ := at_T47 hr.2.2 0 (Int.le_refl _) (by simp); subst eAd; simp only [Int.toNat_zero, Nat.zero_mul, show (rd_T47 [(⟨l', f'⟩ : S47)] 0) = ⟨l', f'⟩ from rfl] at hx0 hx1 hc' hC'; rw [show ad.add 0 = ad from rfl] at hx0 hx1; have HX0 := Aside0.mk hx0; have HC1 := Aside0.mk hC'; have HCC1 := Aside0.mk hc'; have HB := Aside0.mk hb; have HBK := Aside0.mk (blk_below (blk_alloc (blk_new w (.cells #[.slice A0_0 l0_0.length c0_0, .int .i64 a0_1] 47)) (.cells #[.slice A0_0 l0_0.length c0_0, .int .i64 a0_1] 47)) hb); have hcz0 : w1.cell? ⟨w.heap.size, 0, none⟩ = some (.slice A0_0 l0_0.length c0_0) := (blk_cell HBK.out 0).trans rfl; have hcz1 : w1.cell? ⟨w.heap.size, 1, none⟩ = some (.int .i64 a0_1) := (blk_cell HBK.out 1).trans rfl; have hfz0 := blk_frozen HBK.out 0; have hfz1 := blk_frozen HBK.out 1; clear hr ho hb hc' hC' HS))
  go_ret
  have q1 := blk_put HBK.out 0 (.slice A' l'.length c') rfl
  have q2 := blk_put q1 1 (.int .i64 f') rfl
  have hb := B2.out.trans (HB.out.mono (by simp; omega))
  have far : ∀ {X : World} (j : Nat) (v : Value), Below w.heap.size w X → Below w.heap.size w (X.setCell ⟨w.heap.size, j, none⟩ v) := fun j v h => h.setCell (p := ⟨w.heap.size, j, none⟩) (Nat.le_refl _) v
  have ho2 := Kd.R_far (p := ⟨w.heap.size, 1, none⟩) (Kd.R_far (p := ⟨w.heap.size, 0, none⟩) HO.out (fun k hk => by have := hk.2.1; simp at this ⊢; omega) (.slice A' l'.length c')) (fun k hk => by have := hk.2.1; simp at this ⊢; omega) (.int .i64 f')
  obtain ⟨ad2, A2, c2, eAd, hx0, _, _, hC2⟩ := at_T47 (Kd.R_reads' ho2).2.2 0 (Int.le_refl _) (by simp)
  injection eAd with eAd
  subst eAd
  have hne : ad.block ≠ w.heap.size := fun e => by
    have := (HO.out.1 ad.block rfl).2.1
    simp at this
    omega
  have hx := HX0.out
  rw [show ad.add ((0 : Int).toNat * 2) = ad from rfl, cell_far (p := ⟨w.heap.size, 1, none⟩) (by exact hne), cell_far (p := ⟨w.heap.size, 0, none⟩) (by exact hne)] at hx0
  rw [show (rd_T47 [(⟨l', f'⟩ : S47)] 0) = ⟨l', f'⟩ from rfl] at hx0 hC2
  rw [hx] at hx0
  injection hx0 with hx0
  injection hx0 with e1 e2 e3
  subst e1
  exact ⟨w.heap.size, A', c', rfl, q2, hC2, HCC1.out, far _ _ (far _ _ hb)⟩
def BoxF (k : Nat) (l : List (List S34)) (f : Int) (tv : Bool) (t266 : List Int) (N : Nat) (ats : Nat → List Int) (bx : Nat → List S34 × Int × List Int) : Prop :=
  shape_Valid.f k l f = some tv ∧ (tv = false → N = 0) ∧
    (tv = true → 1 ≤ N ∧ shape_steps.f k l f = some t266 ∧ 1 ≤ (t266.length : Int) ∧ l.length ≤ 35184372088832 ∧ ats 0 = List.replicate l.length 0 ∧ ∀ i, i < N → (ats i).length = l.length ∧ shape_Boxes_1.f k l f (t266.drop 1) (ats i) = some (bx i) ∧ nextF l l.length (ats i) = (decide (i + 1 < N), ats (i + 1)))
theorem boxes_seq (n : Nat) (hn : 1 ≤ n) {k : Nat} {gb : Nat} {A : Option Addr} {c : Nat} {l : List (List S34)} {f : Int} {tv : Bool} {t266 : List Int} {N : Nat} {ats : Nat → List Int} {bx : Nat → List S34 × Int × List Int} (hF : BoxF k l f tv t266 N ats bx)
    {w0 : World} (hgb : w0.heap[gb]? = some (.cells #[.slice A l.length c, .int .i64 f] 47 (0, 0))) (hC : Kd.C (Kd.slice 34 k34) w0 A l.length l) (hc : l.length ≤ c) :
    SeqG Fence.wide n Try.prog 73 #[.pointer (some ⟨gb, 0, none⟩)] encB (RdB bx N) (Below w0.heap.size) (fun xs => xs.length = N) (fun pre => 1 ≤ pre.length ∧ pre.length ≤ N) w0 :=
  fun l₀ J Jx W hW hJ hJx h0 hY => boxes1_in n l₀ hn k gb A c l f tv t266 N ats bx w0 W hW hgb hC hc hF.1 hF.2.1 hF.2.2 J Jx hJ hJx h0 hY
theorem wpOpsIn_of {P : Program} {ops : Array Oper} {Q : Exit → Act → World → Prop} (l n : Nat) (hnd : ∀ (i : Nat) (o : Oper), ops[i]? = some o → ∀ c, o.op ≠ .defer c) (hLO : ¬ LetsOut Q) :
    ∀ (is : List Nat) (a : Act) (w : World), wpOps P ops Q is a w → wpOpsIn (Fence.wide.inRound l) n P ops Q is a w
  | [], _, _, h => h
  | i :: rest, a, w, h => by
    unfold wpOps at h
    unfold wpOpsIn
    cases ho : ops[i]? with
    | none => rw [ho] at h; exact wpOpsIn_of l n hnd hLO rest a w h
    | some o =>
      rw [ho] at h
      simp only at h ⊢
      split at h
      · rename_i hw
        rw [if_pos hw]
        rcases h with h | h
        · refine ⟨fun _ _ => trivial, ?_⟩
          rw [show o.semAt (Fence.wide.inRound l).round a.eval = execOp a.eval o from Oper.semAt_some l _ _ (hnd i o ho)]
          unfold Oper.wp at h
          generalize (execOp a.eval o).run P w = r at h
          have ih := wpOpsIn_of (P := P) l n hnd hLO rest
          cases r with
          | ok x w' =>
            cases x with
            | value v => exact ih _ _ h
            | skip => exact ih _ _ h
            | defer d => exact ih _ _ h
            | enter f args =>
              refine ⟨fun h => (by cases h), CallsIn.inRound l (callsIn_wide.2 (Calls.mono h ?_))⟩
              intro e w2 he
              cases e with
              | returned v => exact ih _ _ he
              | panicked c => exact he
              | outgrown => exact he
            | row rw_ args =>
              refine ⟨fun h => (by cases h), fun c cs _ => ?_⟩
              obtain ⟨v, w2, h2, h3⟩ := h c cs
              exact ⟨v, w2, ih _ _ h2, stepsIn_wide.2 h3⟩
            | _ => exact h.elim
          | halt x w' => cases x <;> exact h
        · exact absurd h.2 hLO
      · rename_i hw
        rw [if_neg hw]
        exact ⟨fun _ _ => trivial, wpOpsIn_of l n hnd hLO rest _ _ h⟩
theorem startIn_ {P : Program} {ops : Array Oper} {Q : Exit → Act → World → Prop} {S : World → Prop} {ds : List Nat} {l m : Nat} {id n : Nat} {a : Act} {w : World} (ls : Array Bool) (hm : P.follows .mixedOrders = true) (hn : ops.size = n) (hl : Array.replicate n false = ls)
    (hnd : (ops.all fun o => match o.op with | .defer _ => false | _ => true) = true) (hLO : ¬ LetsOut Q) (hS : S w.drew)
    (h : S w.drew → wpAnyLast P .any ops Q S ds n ls a w.drew) : (Code.region id ops true).wpIn (Fence.wide.inRound l) m P Q a w := by
  subst hn
  subst hl
  refine wpIn_region_draw fun t => ?_
  refine wpOpsIn_of l m (fun i o ho c hc => ?_) hLO _ _ _ ?_
  · have h1 := Array.all_eq_true'.1 hnd o (Array.mem_of_getElem? ho)
    rw [hc] at h1
    cases h1
  · simp only [Region.schedule, hm, Bool.true_or, if_true]
    exact wpAny_sound ops.size t _ a _ (wpAny_of_last _ _ _ _ (h hS))
end Go.Proofs.Ytoljcfocgaonpaa.I
end
