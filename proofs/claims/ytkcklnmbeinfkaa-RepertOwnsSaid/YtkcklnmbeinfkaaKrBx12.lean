/- Words and walks of this claim, of the text Bx12. -/
import Derived.Test.YtkcklnmbeinfkaaKrQW0
import Derived.Test.YtkcklnmbeinfkaaKrBx0
namespace Go.Proofs.Ytkcklnmbeinfkaa.B
open Go.RowKit Go.Proofs.YtkcklnmbeinfkaaW.PrintWords Go.Proofs.YtkcklnmbeinfkaaW.PrintLast Go.Proofs.YtkcklnmbeinfkaaW.PrintMore
attribute [local go_sem] max2_int min2_int max_two min_two max_three min_three max_four min_four
set_option linter.unusedVariables false
set_option linter.unusedSimpArgs false
def leadtrailref03_Valid.l0 : Nat → List (S113) → Int → Option (Bool)
 | 0, _, _ => none
 | k + 1, x0, x3 => if x3 < (x0.length : Int) then (if 0 ≤ x3 then (if ((rd_T113 x0 x3).f0) < 0 then (some false) else (if ((rd_T113 x0 x3).f0) > ((rd_T113 x0 x3).f1) then (some false) else (if ((rd_T113 x0 x3).f1) > 255 then (some false) else (if x3 > 0 then (if 0 ≤ (wrap64 (x3 - 1)) then (if (wrap64 (x3 - 1)) < (x0.length : Int) then (if ((rd_T113 x0 x3).f0) ≤ (wrap64 (((rd_T113 x0 (wrap64 (x3 - 1))).f1) + 1)) then (some false) else (leadtrailref03_Valid.l0 k x0 (wrap64 (x3 + 1)))) else (none)) else (none)) else (leadtrailref03_Valid.l0 k x0 (wrap64 (x3 + 1))))))) else (none)) else (some true)
def leadtrailref03_Valid.f (k : Nat) (l0 : List (S113)) : Option (Bool) := leadtrailref03_Valid.l0 k l0 0
set_option maxHeartbeats 8000000 in
set_option maxRecDepth 100000 in
theorem leadtrailref03_Valid.calls (k : Nat) (A0 : Option Addr) (c0 : Nat) (l0 : List (S113)) (r : Bool) (w : World) (hr0 : Kd.C k113 w A0 l0.length l0) (hc0 : l0.length ≤ c0) (h : leadtrailref03_Valid.f k l0 = some r) :
 Calls Try.prog 103 #[.slice A0 l0.length c0] w fun e w' => e = .returned (.bool r) ∧ Drawn0 w w' := by
 have HR0 := zk hr0; have HC0 := zk hc0; clear hr0 hc0; have H : (leadtrailref03_Valid.l0 k l0 0) = some r := h; clear h; have H' := zk H; clear H; go_enter Try.func103, Try.ntmps103
 go_wp2
 repeat (go_quiet (fail); try go_wp2)
 go_loopg [3] k (fun kq v3 w' => ∃ (x3_1 : Int), v3 = .int .i64 x3_1 ∧ Aside0 (leadtrailref03_Valid.l0 kq l0 x3_1 = some r) ∧ Aside0 (kq ≤ k) ∧ Drawn0 w w')
 case atStart => exact ⟨(0), zR, H', ⟨Nat.le_refl _⟩, by repeat (first | exact Drawn0.refl _ | apply Drawn0.step)⟩
 case round =>
  clear H'; (try clear c1); obtain ⟨x3_1, rfl, HA, HK1, ⟨m1, rfl⟩⟩ := hrel
  cases gk with
  | zero => exact absurd HA.out (by simp [leadtrailref03_Valid.l0])
  | succ k1 =>
   have H := HA.out; clear HA; simp only [leadtrailref03_Valid.l0] at H; by_cases c2 : x3_1 < (l0.length : Int)
   ·rw [if_pos c2] at H; have c2b0 : decide (x3_1 < (l0.length : Int)) = true := decide_eq_true c2; clear c2; by_cases c3 : 0 ≤ x3_1
    ·rw [if_pos c3] at H; have c3b0 : decide (0 ≤ x3_1) = true := decide_eq_true c3; clear c3; by_cases c4 : ((rd_T113 l0 x3_1).f0) < 0
     ·rw [if_pos c4] at H; have c4b0 : decide (((rd_T113 l0 x3_1).f0) < 0) = true := decide_eq_true c4; clear c4; obtain rfl := Option.some.inj H; have p357 : 0 ≤ (x3_1 : Int) := zT; have q357 : x3_1 < (l0.length : Int) := zT; obtain ⟨ad357, e357, hx357_0, hx357_1⟩ := at_T113 HR0.out x3_1 p357 q357; cases e357; replace p357 := eq_true p357; replace q357 := eq_true q357; go_wp2
      repeat (go_quiet (fail); try go_wp2)
      go_ret
      exact ⟨by first | rfl | (simp; done) | (simp [*]; done), by repeat (first | exact Drawn0.refl _ | apply Drawn0.step)⟩
     ·rw [if_neg c4] at H; have c4b0 : decide (((rd_T113 l0 x3_1).f0) < 0) = false := decide_eq_false c4; clear c4; by_cases c5 : ((rd_T113 l0 x3_1).f0) > ((rd_T113 l0 x3_1).f1)
      ·rw [if_pos c5] at H; have c5b0 : decide (((rd_T113 l0 x3_1).f1) < ((rd_T113 l0 x3_1).f0)) = true := decide_eq_true c5; clear c5; obtain rfl := Option.some.inj H; have p357 : 0 ≤ (x3_1 : Int) := zT; have q357 : x3_1 < (l0.length : Int) := zT; obtain ⟨ad357, e357, hx357_0, hx357_1⟩ := at_T113 HR0.out x3_1 p357 q357; cases e357; replace p357 := eq_true p357; replace q357 := eq_true q357; have p358 : 0 ≤ (x3_1 : Int) := zT; have q358 : x3_1 < (l0.length : Int) := zT; obtain ⟨ad358, e358, hx358_0, hx358_1⟩ := at_T113 HR0.out x3_1 p358 q358; obtain rfl : ad357 = ad358 := (by injection e358); replace p358 := eq_true p358; replace q358 := eq_true q358; have p359 : 0 ≤ (x3_1 : Int) := zT; have q359 : x3_1 < (l0.length : Int) := zT; obtain ⟨ad359, e359, hx359_0, hx359_1⟩ := at_T113 HR0.out x3_1 p359 q359; obtain rfl : ad357 = ad359 := (by injection e359); replace p359 := eq_true p359; replace q359 := eq_true q359; go_wp2
       repeat (go_quiet (fail); try go_wp2)
       go_ret
       exact ⟨by first | rfl | (simp; done) | (simp [*]; done), by repeat (first | exact Drawn0.refl _ | apply Drawn0.step)⟩
      ·rw [if_neg c5] at H; have c5b0 : decide (((rd_T113 l0 x3_1).f1) < ((rd_T113 l0 x3_1).f0)) = false := decide_eq_false c5; clear c5; by_cases c6 : ((rd_T113 l0 x3_1).f1) > 255
       ·rw [if_pos c6] at H; have c6b0 : decide (255 < ((rd_T113 l0 x3_1).f1)) = true := decide_eq_true c6; clear c6; obtain rfl := Option.some.inj H; have p357 : 0 ≤ (x3_1 : Int) := zT; have q357 : x3_1 < (l0.length : Int) := zT; obtain ⟨ad357, e357, hx357_0, hx357_1⟩ := at_T113 HR0.out x3_1 p357 q357; cases e357; replace p357 := eq_true p357; replace q357 := eq_true q357; have p358 : 0 ≤ (x3_1 : Int) := zT; have q358 : x3_1 < (l0.length : Int) := zT; obtain ⟨ad358, e358, hx358_0, hx358_1⟩ := at_T113 HR0.out x3_1 p358 q358; obtain rfl : ad357 = ad358 := (by injection e358); replace p358 := eq_true p358; replace q358 := eq_true q358; have p359 : 0 ≤ (x3_1 : Int) := zT; have q359 : x3_1 < (l0.length : Int) := zT; obtain ⟨ad359, e359, hx359_0, hx359_1⟩ := at_T113 HR0.out x3_1 p359 q359; obtain rfl : ad357 = ad359 := (by injection e359); replace p359 := eq_true p359; replace q359 := eq_true q359; have p360 : 0 ≤ (x3_1 : Int) := zT; have q360 : x3_1 < (l0.length : Int) := zT; obtain ⟨ad360, e360, hx360_0, hx360_1⟩ := at_T113 HR0.out x3_1 p360 q360; obtain rfl : ad357 = ad360 := (by injection e360); replace p360 := eq_true p360; replace q360 := eq_true q360; go_wp2
        repeat (go_quiet (fail); try go_wp2)
        go_ret
        exact ⟨by first | rfl | (simp; done) | (simp [*]; done), by repeat (first | exact Drawn0.refl _ | apply Drawn0.step)⟩
       ·rw [if_neg c6] at H; have c6b0 : decide (255 < ((rd_T113 l0 x3_1).f1)) = false := decide_eq_false c6; clear c6; by_cases c7 : x3_1 > 0
        ·rw [if_pos c7] at H; have c7b0 : decide (0 < x3_1) = true := decide_eq_true c7; clear c7; obtain ⟨ji8, hji8⟩ : ∃ j_ : Int, (wrap64 (x3_1 - 1)) = j_ := ⟨_, rfl⟩
         replace H : (if 0 ≤ (ji8) then (if (ji8) < (l0.length : Int) then (if ((rd_T113 l0 x3_1).f0) ≤ (wrap64 (((rd_T113 l0 (ji8)).f1) + 1)) then (some false) else (leadtrailref03_Valid.l0 k1 l0 (wrap64 (x3_1 + 1)))) else (none)) else (none)) = some r := by first | (rw [hji8] at H; exact H) | (simp only [hji8] at H ⊢; exact H)
         have hji8w : (IntKind.i64.wrap (x3_1 - 1)) = ji8 := (i64_w _).trans hji8; by_cases c9 : 0 ≤ (ji8)
         ·rw [if_pos c9] at H; have c9b0 : decide (0 ≤ (ji8)) = true := decide_eq_true c9; clear c9; by_cases c10 : (ji8) < (l0.length : Int)
          ·rw [if_pos c10] at H; have c10b0 : decide ((ji8) < (l0.length : Int)) = true := decide_eq_true c10; clear c10; by_cases c11 : ((rd_T113 l0 x3_1).f0) ≤ (wrap64 (((rd_T113 l0 (ji8)).f1) + 1))
           ·rw [if_pos c11] at H; have c11b0 : decide (((rd_T113 l0 x3_1).f0) ≤ (wrap64 (((rd_T113 l0 (ji8)).f1) + 1))) = true := decide_eq_true c11; clear c11; obtain rfl := Option.some.inj H; have p357 : 0 ≤ (x3_1 : Int) := zT; have q357 : x3_1 < (l0.length : Int) := zT; obtain ⟨ad357, e357, hx357_0, hx357_1⟩ := at_T113 HR0.out x3_1 p357 q357; cases e357; replace p357 := eq_true p357; replace q357 := eq_true q357; have p358 : 0 ≤ (x3_1 : Int) := zT; have q358 : x3_1 < (l0.length : Int) := zT; obtain ⟨ad358, e358, hx358_0, hx358_1⟩ := at_T113 HR0.out x3_1 p358 q358; obtain rfl : ad357 = ad358 := (by injection e358); replace p358 := eq_true p358; replace q358 := eq_true q358; have p359 : 0 ≤ (x3_1 : Int) := zT; have q359 : x3_1 < (l0.length : Int) := zT; obtain ⟨ad359, e359, hx359_0, hx359_1⟩ := at_T113 HR0.out x3_1 p359 q359; obtain rfl : ad357 = ad359 := (by injection e359); replace p359 := eq_true p359; replace q359 := eq_true q359; have p360 : 0 ≤ (x3_1 : Int) := zT; have q360 : x3_1 < (l0.length : Int) := zT; obtain ⟨ad360, e360, hx360_0, hx360_1⟩ := at_T113 HR0.out x3_1 p360 q360; obtain rfl : ad357 = ad360 := (by injection e360); replace p360 := eq_true p360; replace q360 := eq_true q360; have p361 : 0 ≤ (x3_1 : Int) := zT; have q361 : x3_1 < (l0.length : Int) := zT; obtain ⟨ad361, e361, hx361_0, hx361_1⟩ := at_T113 HR0.out x3_1 p361 q361; obtain rfl : ad357 = ad361 := (by injection e361); replace p361 := eq_true p361; replace q361 := eq_true q361; have p362 : 0 ≤ ((ji8) : Int) := zT; have q362 : (ji8) < (l0.length : Int) := zT; obtain ⟨ad362, e362, hx362_0, hx362_1⟩ := at_T113 HR0.out (ji8) p362 q362; obtain rfl : ad357 = ad362 := (by injection e362); replace p362 := eq_true p362; replace q362 := eq_true q362; go_wp2
            repeat (go_quiet (fail); try go_wp2)
            go_ret
            exact ⟨by first | rfl | (simp; done) | (simp only [← hji8] <;> (first | rfl | simp)) | (simp [*]; done), by repeat (first | exact Drawn0.refl _ | apply Drawn0.step)⟩
           ·rw [if_neg c11] at H; have c11b0 : decide (((rd_T113 l0 x3_1).f0) ≤ (wrap64 (((rd_T113 l0 (ji8)).f1) + 1))) = false := decide_eq_false c11; clear c11; have H' := zk H; clear H; have p357 : 0 ≤ (x3_1 : Int) := zT; have q357 : x3_1 < (l0.length : Int) := zT; obtain ⟨ad357, e357, hx357_0, hx357_1⟩ := at_T113 HR0.out x3_1 p357 q357; cases e357; replace p357 := eq_true p357; replace q357 := eq_true q357; have p358 : 0 ≤ (x3_1 : Int) := zT; have q358 : x3_1 < (l0.length : Int) := zT; obtain ⟨ad358, e358, hx358_0, hx358_1⟩ := at_T113 HR0.out x3_1 p358 q358; obtain rfl : ad357 = ad358 := (by injection e358); replace p358 := eq_true p358; replace q358 := eq_true q358; have p359 : 0 ≤ (x3_1 : Int) := zT; have q359 : x3_1 < (l0.length : Int) := zT; obtain ⟨ad359, e359, hx359_0, hx359_1⟩ := at_T113 HR0.out x3_1 p359 q359; obtain rfl : ad357 = ad359 := (by injection e359); replace p359 := eq_true p359; replace q359 := eq_true q359; have p360 : 0 ≤ (x3_1 : Int) := zT; have q360 : x3_1 < (l0.length : Int) := zT; obtain ⟨ad360, e360, hx360_0, hx360_1⟩ := at_T113 HR0.out x3_1 p360 q360; obtain rfl : ad357 = ad360 := (by injection e360); replace p360 := eq_true p360; replace q360 := eq_true q360; have p361 : 0 ≤ (x3_1 : Int) := zT; have q361 : x3_1 < (l0.length : Int) := zT; obtain ⟨ad361, e361, hx361_0, hx361_1⟩ := at_T113 HR0.out x3_1 p361 q361; obtain rfl : ad357 = ad361 := (by injection e361); replace p361 := eq_true p361; replace q361 := eq_true q361; have p362 : 0 ≤ ((ji8) : Int) := zT; have q362 : (ji8) < (l0.length : Int) := zT; obtain ⟨ad362, e362, hx362_0, hx362_1⟩ := at_T113 HR0.out (ji8) p362 q362; obtain rfl : ad357 = ad362 := (by injection e362); replace p362 := eq_true p362; replace q362 := eq_true q362; go_wp2
            repeat (go_quiet (fail); try go_wp2)
            go_roundg k1
            case measure => have := HK1.out; omega
            case rel => exact ⟨(wrap64 (x3_1 + 1)), zR, H', ⟨by have := HK1.out; omega⟩, by repeat (first | exact Drawn0.refl _ | apply Drawn0.step)⟩
          ·rw [if_neg c10] at H; exact absurd H (by simp)
         ·rw [if_neg c9] at H; exact absurd H (by simp)
        ·rw [if_neg c7] at H; have c7b0 : decide (0 < x3_1) = false := decide_eq_false c7; clear c7; have H' := zk H; clear H; have p357 : 0 ≤ (x3_1 : Int) := zT; have q357 : x3_1 < (l0.length : Int) := zT; obtain ⟨ad357, e357, hx357_0, hx357_1⟩ := at_T113 HR0.out x3_1 p357 q357; cases e357; replace p357 := eq_true p357; replace q357 := eq_true q357; have p358 : 0 ≤ (x3_1 : Int) := zT; have q358 : x3_1 < (l0.length : Int) := zT; obtain ⟨ad358, e358, hx358_0, hx358_1⟩ := at_T113 HR0.out x3_1 p358 q358; obtain rfl : ad357 = ad358 := (by injection e358); replace p358 := eq_true p358; replace q358 := eq_true q358; have p359 : 0 ≤ (x3_1 : Int) := zT; have q359 : x3_1 < (l0.length : Int) := zT; obtain ⟨ad359, e359, hx359_0, hx359_1⟩ := at_T113 HR0.out x3_1 p359 q359; obtain rfl : ad357 = ad359 := (by injection e359); replace p359 := eq_true p359; replace q359 := eq_true q359; have p360 : 0 ≤ (x3_1 : Int) := zT; have q360 : x3_1 < (l0.length : Int) := zT; obtain ⟨ad360, e360, hx360_0, hx360_1⟩ := at_T113 HR0.out x3_1 p360 q360; obtain rfl : ad357 = ad360 := (by injection e360); replace p360 := eq_true p360; replace q360 := eq_true q360; go_wp2
         repeat (go_quiet (fail); try go_wp2)
         go_roundg k1
         case measure => have := HK1.out; omega
         case rel => exact ⟨(wrap64 (x3_1 + 1)), zR, H', ⟨by have := HK1.out; omega⟩, by repeat (first | exact Drawn0.refl _ | apply Drawn0.step)⟩
    ·rw [if_neg c3] at H; exact absurd H (by simp)
   ·rw [if_neg c2] at H; have c2b0 : decide (x3_1 < (l0.length : Int)) = false := decide_eq_false c2; clear c2; obtain rfl := Option.some.inj H; go_wp2
    repeat (go_quiet (fail); try go_wp2)
    go_ret
    exact ⟨by first | rfl | (simp; done) | (simp [*]; done), by repeat (first | exact Drawn0.refl _ | apply Drawn0.step)⟩
def bitsV (p : Nat → Bool) : Array Value := ((List.range 256).map fun i => Value.bool (p i)).toArray
theorem bitsV_size (p : Nat → Bool) : (bitsV p).size = 256 := by simp [bitsV]
theorem bitsV_get (p : Nat → Bool) (i : Nat) (h : i < 256) : (bitsV p)[i]? = some (.bool (p i)) := by simp [bitsV, h]
theorem bitsV_congr {p q : Nat → Bool} (h : ∀ i, i < 256 → p i = q i) : bitsV p = bitsV q := by
 unfold bitsV; congr 1; exact List.map_congr_left fun i hi => by rw [h i (List.mem_range.1 hi)]
theorem bitsV_set (p : Nat → Bool) (i : Nat) (b : Bool) : (bitsV p).setIfInBounds i (.bool b) = bitsV (fun j => if j = i then b else p j) := by
 apply Array.ext
 ·simp [bitsV]
 ·intro j h1 h2; have hj : j < 256 := by simpa [bitsV] using h2
  rw [Array.getElem_setIfInBounds (by rw [bitsV_size]; exact hj)]; by_cases h : i = j
  ·subst h; simp [bitsV]
  ·rw [if_neg h]; simp [bitsV, Ne.symm h]
theorem bits_zero : Try.zeroCells110 = bitsV fun _ => false := by kernel_rfl
theorem blk_new2 (w : World) (o o' : Obj) : ((w.alloc o).alloc o').heap[w.heap.size + 1]? = some o' := by
 have h := blk_new (w.alloc o) o'; rwa [show (w.alloc o).heap.size = w.heap.size + 1 from by simp only [World.alloc, Array.size_push]] at h
theorem wp_load_blk {P : Program} {op : Oper} {a : Act} {w : World} {K : Act → World → Prop} {Q : Exit → Act → World → Prop} (ty : TypeId) (x : Operand) (ho : op.op = .load ty x)
 (g : Nat) (hx : a.eval x = .pointer (some ⟨g, 0, none⟩)) (c : Array Value) (hg : w.heap[g]? = some (.cells c ty (0, 0))) (n : Nat) (e : TypeId) (hu : P.underlying ty = some (.array n e)) (hi : (P.info? ty).map (·.size) = some c.size)
 (h : K (a.put op.dst (.agg c)) w) : op.wp P a w K Q := by
 unfold Oper.wp execOp; simp only [ho, hx, Instr.loadAt, Instr.sureAddr, Sem.run_bind, Sem.run_pure, Result.andThen_ok, run_loadVar_row _ _ ty ty c (0, 0) _ hg hu rfl hi]; exact h
theorem run_store_blk {P : Program} (w : World) (g : Nat) (t : TypeId) (c c' : Array Value) (hg : w.heap[g]? = some (.cells c t (0, 0))) (hi : (P.info? t).map (·.size) = some c'.size) (hs : c.size = c'.size) (h1 : c'.all (·.oneCell') = true) :
 Sem.run P (storeCells ⟨g, 0, none⟩ c'.toList 0) w = .ok () (w.setRow g c') := by
 have h := run_storeVar_row (P := P) w g t t c c' hg hi hs h1; cases hq : P.info? t with
 | none => simp [hq] at hi
 | some i =>
  have hs : i.size = c'.size := by simp [hq] at hi; omega
  simpa [storeVar, sizeOf, typeInfo, hq, hs, Value.cells] using h
theorem blk_row (w : World) (g : Nat) (c c' : Array Value) {t : TypeId} (hg : w.heap[g]? = some (.cells c t (0, 0))) : (w.setRow g c').heap[g]? = some (.cells c' t (0, 0)) := setRow_heap w g c c' t (0, 0) hg
theorem bits_one (p : Nat → Bool) : (bitsV p).all (·.oneCell') = true := by
 rw [Array.all_eq_true_iff_forall_mem]; intro v hv; simp [bitsV] at hv; obtain ⟨i, _, rfl⟩ := hv; rfl
theorem hu110 : Try.prog.underlying 110 = some (.array 256 4) := by kernel_rfl
theorem hi110 (p : Nat → Bool) : (Try.prog.info? 110).map (·.size) = some (bitsV p).size := by rw [bitsV_size]; kernel_rfl
theorem w64' {x : Int} (h0 : -9223372036854775808 ≤ x) (h1 : x ≤ 9223372036854775807) : wrap64 x = x := by unfold wrap64; omega
def pieceHas (r : S113) (i : Nat) : Bool := decide (r.f0 ≤ i) && decide ((i : Int) ≤ r.f1)
def hasAny (l : List S113) (i : Nat) : Bool := l.any fun r => pieceHas r i
def okPiece (r : S113) : Bool := decide (0 ≤ r.f0) && decide (r.f0 ≤ r.f1) && decide (r.f1 ≤ 255)
set_option maxHeartbeats 8000000 in
set_option maxRecDepth 100000 in
theorem R3Members.calls (k : Nat) (A0 : Option Addr) (c0 : Nat) (l0 : List S113) (b : Bool) (w : World) (hr0 : Kd.C k113 w A0 l0.length l0) (hc0 : l0.length ≤ c0) (h : leadtrailref03_Valid.f k l0 = some b) (hok : b = true → ∀ r ∈ l0, okPiece r = true) (hsm : l0.length ≤ 8796093022207) :
 Calls Try.prog 82 #[.slice A0 l0.length c0] w fun e w' => e = .returned (.agg (bitsV fun i => b && hasAny l0 i)) ∧ Below w.heap.size w w' := by
 have HR0 := zk hr0; have HC0 := zk hc0; clear hr0 hc0; have HB := zk (Below.refl w.heap.size w); have HRw := HR0; cases b with
 | false =>
  go_enter Try.func82, Try.ntmps82
  go_wp2_with (go_at_call 103; (with_reducible refine (leadtrailref03_Valid.calls k _ _ l0 _ _ ?side1 ?side2 h).mono ?_); (case side1 => exact zc HR0.out); (case side2 => exact HC0.out); rintro e w1 ⟨rfl, hb⟩; have B2 := zk (show w1.heap[w.heap.size]? = some (.cells (bitsV fun _ => false) 110 (0, 0)) by obtain ⟨n, rfl⟩ := hb.out; rw [← bits_zero]; exact blk_drewN (blk_alloc (blk_new w _) _) _); have B3 := zk (show w1.heap[w.heap.size + 1]? = some (.cells (bitsV fun _ => false) 110 (0, 0)) by obtain ⟨n, rfl⟩ := hb.out; rw [← bits_zero]; exact blk_drewN (blk_new2 w _ _) _); have n1_ := zk (below_step (below_alloc (below_alloc HB.out _) _) hb.below); have n2_ := zk (Kd.C_below (Kd.C_alloc (Kd.C_alloc HR0.out _) _) hb.below); clear HB HR0 hb; have HB := n1_; have HR0 := n2_; clear n1_ n2_)
  refine wp_load_blk 110 (.tmp 3) rfl (w.heap.size + 1) rfl _ B3.out 256 4 hu110 (hi110 _) ?_; go_wp2
  rw [run_store_blk w1 w.heap.size 110 _ (bitsV fun _ => false) B2.out (hi110 _) (by simp [bitsV_size]) (bits_one _)]; have hB := blk_row w1 w.heap.size _ (bitsV fun _ => false) B2.out; go_wp2
  refine bodyPost_ret (results_cell_row (by exact Try.results82) _ _ w.heap.size 110 (bitsV fun _ => false) (0, 0) (.array 256 4) ?hp hB hu110 rfl (hi110 _)) rfl ?_
  case hp => rfl
  exact ⟨by simp only [Bool.false_and], below_setRow HB.out (Nat.le_refl _) _⟩
 | true =>
  go_enter Try.func82, Try.ntmps82
  go_wp2_with (go_at_call 103; (with_reducible refine (leadtrailref03_Valid.calls k _ _ l0 _ _ ?side1 ?side2 h).mono ?_); (case side1 => exact zc HR0.out); (case side2 => exact HC0.out); rintro e w1 ⟨rfl, hb⟩; have B2 := zk (show w1.heap[w.heap.size]? = some (.cells (bitsV fun _ => false) 110 (0, 0)) by obtain ⟨n, rfl⟩ := hb.out; rw [← bits_zero]; exact blk_drewN (blk_alloc (blk_new w _) _) _); have B3 := zk (show w1.heap[w.heap.size + 1]? = some (.cells (bitsV fun _ => false) 110 (0, 0)) by obtain ⟨n, rfl⟩ := hb.out; rw [← bits_zero]; exact blk_drewN (blk_new2 w _ _) _); have n1_ := zk (below_step (below_alloc (below_alloc HB.out _) _) hb.below); clear HB hb; have HB := n1_; clear n1_)
  have hgt := hok trivial; go_loopg [4] (l0.length + 1) (fun kq v4 w' => ∃ n : Nat, v4 = .int .i64 (n : Int) ∧ Aside0 (n + kq = l0.length + 1 ∧ n ≤ l0.length) ∧ Aside0 (w'.heap[w.heap.size]? = some (.cells (bitsV fun _ => false) 110 (0, 0))) ∧ Aside0 (w'.heap[w.heap.size + 1]? = some (.cells (bitsV fun i => hasAny (l0.take n) i) 110 (0, 0))) ∧ Aside0 (Below w.heap.size w w'))
  case atStart => exact ⟨0, rfl, ⟨by omega, by omega⟩, B2, ⟨by simpa [hasAny] using B3.out⟩, HB⟩
  case round =>
   obtain ⟨n, rfl, HN, C2, C3, HB'⟩ := hrel; have hN := HN.out
   cases gk with
   | zero => exact absurd hN (by omega)
   | succ ko =>
   by_cases c : n < l0.length
   ·have p : 0 ≤ (n : Int) := by omega
    have q : (n : Int) < (l0.length : Int) := by omega
    obtain ⟨ad, e, hx0, hx1⟩ := at_T113 (Kd.C_below HRw.out HB'.out) n p q; cases e; simp only [Int.toNat_natCast] at hx0 hx1; have cb : decide ((n : Int) < (l0.length : Int)) = true := decide_eq_true q; have hnr := zk (show l0[n]? = some (rd_T113 l0 n) by simp [rd_T113, List.getD, c]); have hr := zk (show okPiece (rd_T113 l0 n) = true from hgt _ (List.mem_of_getElem? hnr.out)); have c0_ := zk c; have cb2 : decide (n < l0.length) = true := decide_eq_true c; clear c hN; replace p := eq_true p; replace q := eq_true q; go_wp2
    clear hx0 hx1; generalize hrr : rd_T113 l0 n = r at hr hnr ⊢; have hb : 0 ≤ r.f0 ∧ r.f0 ≤ r.f1 ∧ r.f1 ≤ 255 := by simpa [okPiece, and_assoc] using hr.out
    have e0 : ((r.f0.toNat : Nat) : Int) = r.f0 := Int.toNat_of_nonneg hb.1; have hm0 : r.f0.toNat ≤ 255 := by omega
    go_loopg [5] (512 - r.f0.toNat) (fun kq v5 w' => ∃ m : Nat, v5 = .int .i64 (m : Int) ∧ Aside0 (m + kq = 512) ∧ Aside0 (r.f0 ≤ m ∧ (m : Int) ≤ r.f1 + 1) ∧ Aside0 (w'.heap[w.heap.size]? = some (.cells (bitsV fun _ => false) 110 (0, 0))) ∧ Aside0 (w'.heap[w.heap.size + 1]? = some (.cells (bitsV fun i => hasAny (l0.take n) i || (decide (r.f0 ≤ i) && decide (i < m))) 110 (0, 0))) ∧ Aside0 (Below w.heap.size w w'))
    case atStart => exact ⟨r.f0.toNat, by rw [e0], ⟨by omega⟩, ⟨by omega⟩, C2, ⟨by rw [C3.out, bitsV_congr (fun i _ => (by
     have : (decide (r.f0 ≤ (i : Int)) && decide (i < r.f0.toNat)) = false := by simp <;> omega
     rw [this, Bool.or_false] : hasAny (l0.take n) i = (hasAny (l0.take n) i || (decide (r.f0 ≤ (i : Int)) && decide (i < r.f0.toNat)))))]⟩, HB'⟩
    case round =>
     obtain ⟨m, rfl, HT, HL, D2, D3, HB2⟩ := hrel; have hL := HL.out; have hT := HT.out; obtain ⟨ad2, e2, hx0, hx1⟩ := at_T113 (Kd.C_below HRw.out HB2.out) n (by omega) (by have := c0_.out; omega); obtain rfl : ad = ad2 := by injection e2
     simp only [Int.toNat_natCast, hrr] at hx0 hx1
     cases gk with
     | zero => exact absurd hT (by omega)
     | succ k1 =>
      by_cases d : (m : Int) ≤ r.f1
      ·have db : decide ((m : Int) ≤ r.f1) = true := decide_eq_true d; have p2 : (0 ≤ (m : Int)) = True := eq_true (by omega); have q2 : ((m : Int) < 256) = True := eq_true (by omega); have hc := blk_cell D3.out m; rw [bitsV_get _ _ (by omega)] at hc; have hf := blk_frozen D3.out m; have d_ := zk d; clear d hL hT; go_wp2
       have hL := HL.out; have hT := HT.out; have d := d_.out; go_roundg k1
       case measure => omega
       case rel => exact ⟨m + 1, by rw [w64' (by omega) (by omega)]; simp, ⟨by omega⟩, ⟨by omega⟩, ⟨blk_far D2.out (by simp) _⟩, ⟨blk_put D3.out m _ ((bitsV_set _ _ _).trans (bitsV_congr fun i _ => (by
        by_cases hi : i = m
        ·subst hi; simp; right; omega
        ·rw [if_neg hi]; have : decide (i < m + 1) = decide (i < m) := by rw [decide_eq_decide]; omega
         rw [this])))⟩, ⟨below_set HB2.out (Nat.le_succ _)⟩⟩
      ·have db : decide ((m : Int) ≤ r.f1) = false := decide_eq_false d; have d_ := zk d; clear d hL hT; go_wp2
       have hL := HL.out; have hT := HT.out; have d := d_.out; have c := c0_.out; have hN := HN.out; go_roundg ko
       case measure => omega
       case rel => exact ⟨n + 1, by rw [w64' (by omega) (by omega)]; simp, ⟨by omega, by omega⟩, D2, ⟨by rw [D3.out, bitsV_congr (fun i _ => (by
        have e1 : l0.take (n + 1) = l0.take n ++ [r] := by rw [List.take_add_one, hnr.out]; rfl
        have e2 : decide (i < m) = decide ((i : Int) ≤ r.f1) := by rw [decide_eq_decide]; omega
        rw [e1, e2]; simp [hasAny, pieceHas] : (hasAny (l0.take n) i || (decide (r.f0 ≤ (i : Int)) && decide (i < m))) = hasAny (l0.take (n + 1)) i))]⟩, HB2⟩
   ·have hn := zk (show n = l0.length by omega); have cb : decide ((n : Int) < (l0.length : Int)) = false := decide_eq_false (by omega); have cb2 : decide (n < l0.length) = false := decide_eq_false c; clear c hN; go_wp2
    refine wp_load_blk 110 (.tmp 3) rfl (w.heap.size + 1) rfl _ C3.out 256 4 hu110 (hi110 _) ?_; go_wp2
    rw [run_store_blk _ w.heap.size 110 _ (bitsV fun i => hasAny (l0.take n) i) C2.out (hi110 _) (by simp [bitsV_size]) (bits_one _)]; have hB := blk_row _ w.heap.size _ (bitsV fun i => hasAny (l0.take n) i) C2.out; go_wp2
    refine bodyPost_ret (results_cell_row (by exact Try.results82) _ _ w.heap.size 110 (bitsV fun i => hasAny (l0.take n) i) (0, 0) (.array 256 4) ?hp hB hu110 rfl (hi110 _)) rfl ?_
    case hp => rfl
    exact ⟨by simp only [Bool.true_and]; rw [hn.out, List.take_length], below_setRow HB'.out (Nat.le_refl _) _⟩
def membersB (b : Bool) (l : List S113) (i : Nat) : Bool := b && hasAny l i
def leadtrailref03_memb (k : Nat) (l0 : List S113) : Option (Nat → Bool) := (leadtrailref03_Valid.f k l0).bind fun b => if l0.length ≤ 8796093022207 then (if b = true then (if l0.all okPiece = true then some (membersB true l0) else none) else some (membersB false l0)) else none
theorem memb_some {k : Nat} {l0 : List S113} {p : Nat → Bool} (h : leadtrailref03_memb k l0 = some p) : ∃ b, leadtrailref03_Valid.f k l0 = some b ∧ p = membersB b l0 ∧ (b = true → ∀ r ∈ l0, okPiece r = true) ∧ l0.length ≤ 8796093022207 := by
 obtain ⟨b, h1, h2⟩ := Option.bind_eq_some_iff.mp h; by_cases c : l0.length ≤ 8796093022207
 ·rw [if_pos c] at h2; cases b with
  | true =>
   simp only [if_true] at h2; by_cases d : l0.all okPiece = true
   ·rw [if_pos d] at h2; exact ⟨true, h1, (Option.some.inj h2).symm, fun _ => List.all_eq_true.1 d, c⟩
   ·rw [if_neg d] at h2; cases h2
  | false =>
   simp only [Bool.false_eq_true, if_false] at h2; exact ⟨false, h1, (Option.some.inj h2).symm, fun h => (by cases h), c⟩
 ·rw [if_neg c] at h2; cases h2
def cntB (p : Nat → Bool) : Nat → Nat
 | 0 => 0
 | n + 1 => cntB p n + if p n = true then 1 else 0
theorem cntB_le (p : Nat → Bool) : ∀ n, cntB p n ≤ n
 | 0 => Nat.le_refl _
 | n + 1 => by have := cntB_le p n; simp only [cntB]; split <;> omega
theorem run_store_new (w : World) (p : Nat → Bool) : Sem.run Try.prog (storeCells ⟨w.heap.size, 0, none⟩ (bitsV p).toList 0) (w.alloc (.cells Try.zeroCells110 110)) = .ok () (w.alloc (.cells (bitsV p) 110)) :=
 run_storeCells_new w 110 Try.zeroCells110 (bitsV p) (hi110 p) (by rw [bits_zero, bitsV_size, bitsV_size]) (bits_one p)
set_option maxHeartbeats 8000000 in
set_option maxRecDepth 100000 in
theorem R3Size.calls (k : Nat) (A0 : Option Addr) (c0 : Nat) (l0 : List S113) (b : Bool) (w : World) (hr0 : Kd.C k113 w A0 l0.length l0) (hc0 : l0.length ≤ c0) (h : leadtrailref03_Valid.f k l0 = some b) (hok : b = true → ∀ r ∈ l0, okPiece r = true) (hsm : l0.length ≤ 8796093022207) :
 Calls Try.prog 101 #[.slice A0 l0.length c0] w fun e w' => e = .returned (.int .i64 (cntB (membersB b l0) 256 : Nat)) ∧ Below w.heap.size w w' := by
 have HR0 := zk hr0; have HC0 := zk hc0; have hMem := R3Members.calls k A0 c0 l0 b w hr0 hc0 h hok hsm; clear hr0 hc0 h hok; change Calls Try.prog 82 _ w (fun e w' => e = .returned (.agg (bitsV (membersB b l0))) ∧ _) at hMem
 have HB := zk (Below.refl w.heap.size w); have hle := cntB_le (membersB b l0); generalize membersB b l0 = p at hMem hle ⊢; go_enter Try.func101, Try.ntmps101
 go_wp2_with (go_at_call 82; refine hMem.mono ?_; rintro e w1 ⟨rfl, hb⟩; clear hMem; have HB2 := zk hb; clear hb)
 rw [run_store_new w1 p]; have D := zk (blk_new w1 (.cells (bitsV p) 110)); have HB3 := zk (below_alloc HB2.out (.cells (bitsV p) 110)); clear HB2 HB; generalize w1.heap.size = g at D ⊢; generalize w1.alloc (.cells (bitsV p) 110) = w2 at D HB3 ⊢; go_wp2
 go_loopg [4, 5] 257 (fun kq v4 v5 w' => ∃ n : Nat, v4 = .int .i64 (cntB p n : Nat) ∧ v5 = .int .i64 (n : Int) ∧ Aside0 (n + kq = 257) ∧ Aside0 (n ≤ 256) ∧ Aside0 (w'.heap[g]? = some (.cells (bitsV p) 110 (0, 0))) ∧ Aside0 (Below w.heap.size w w'))
 case atStart => exact ⟨0, rfl, rfl, ⟨by omega⟩, ⟨by omega⟩, D, HB3⟩
 case round =>
  obtain ⟨n, rfl, rfl, HN, HN2, C, HB'⟩ := hrel; have hcl := cntB_le p n
  cases gk with
  | zero => exact absurd HN.out (by have := HN2.out; omega)
  | succ k1 =>
  by_cases c : n ≤ 255
  ·have cb : decide ((n : Int) ≤ 255) = true := decide_eq_true (by omega); have p2 : (0 ≤ (n : Int)) = True := eq_true (by omega); have q2 : ((n : Int) < 256) = True := eq_true (by omega); have c_ := zk c; have hcl_ := zk hcl; have hc := blk_cell C.out n; rw [bitsV_get _ _ (by omega)] at hc; clear c hcl; cases hpn : p n with
   | true =>
    rw [hpn] at hc; go_wp2
    have hcl := hcl_.out; have hN := HN.out; have c := c_.out; go_roundg k1
    case measure => omega
    case rel => exact ⟨n + 1, by simp only [cntB, hpn, if_true]; rw [w64' (by omega) (by omega)]; simp, by rw [w64' (by omega) (by omega)]; simp, ⟨by omega⟩, ⟨by omega⟩, C, HB'⟩
   | false =>
    rw [hpn] at hc; go_wp2
    have hcl := hcl_.out; have hN := HN.out; have c := c_.out; go_roundg k1
    case measure => omega
    case rel => exact ⟨n + 1, by simp only [cntB, hpn, Bool.false_eq_true, if_false, Nat.add_zero], by rw [w64' (by omega) (by omega)]; simp, ⟨by omega⟩, ⟨by omega⟩, C, HB'⟩
  ·have cb : decide ((n : Int) ≤ 255) = false := decide_eq_false (by omega); have hn := zk (show n = 256 by have := HN.out; have := HN2.out; omega); clear c hcl; go_wp2
   go_ret
   have hn := hn.out; subst hn; exact ⟨rfl, HB'.out⟩
def leadtrailref03_Size.f (k : Nat) (l0 : List (S113)) : Option (Int) := (leadtrailref03_memb k l0).bind fun p => some (cntB p 256 : Int)
theorem leadtrailref03_Size.calls (k : Nat) (A0 : Option Addr) (c0 : Nat) (l0 : List (S113)) (r : Int) (w : World) (hr0 : Kd.C k113 w A0 l0.length l0) (hc0 : l0.length ≤ c0) (h : leadtrailref03_Size.f k l0 = some r) :
 Calls Try.prog 101 #[.slice A0 l0.length c0] w fun e w' => e = .returned (.int .i64 r) ∧ Below w.heap.size w w' := by
 obtain ⟨p, h1, h2⟩ := Option.bind_eq_some_iff.mp h; obtain ⟨b, hv, rfl, hok, hsm⟩ := memb_some h1; have hh := R3Size.calls k A0 c0 l0 b w hr0 hc0 hv hok hsm; obtain rfl := Option.some.inj h2; exact hh
def leadtrailref08_Count.l0 : Nat → Int → Int → List (List (S113)) → Int → Option (Int)
 | 0, _, _, _, _ => none
 | k + 1, x3, x4, x364000, x364001 => if x4 < (x364000.length : Int) then (if 0 ≤ x4 then ((leadtrailref03_Size.f k (rd_L4 x364000 x4)).bind fun t365 => (if (wrap64 (x3 * t365)) > 1073741824 then (leadtrailref08_Count.l0 k 1073741825 (wrap64 (x4 + 1)) x364000 x364001) else (leadtrailref08_Count.l0 k (wrap64 (x3 * t365)) (wrap64 (x4 + 1)) x364000 x364001))) else (none)) else (some x3)
def leadtrailref08_Count.f (k : Nat) (l0_0 : List (List (S113))) (a0_1 : Int) : Option (Int) := leadtrailref08_Count.l0 k 1 0 l0_0 a0_1
set_option maxHeartbeats 8000000 in
set_option maxRecDepth 100000 in
theorem leadtrailref08_Count.calls (k : Nat) (A0_0 : Option Addr) (c0_0 : Nat) (l0_0 : List (List (S113))) (a0_1 : Int) (r : Int) (w : World) (hr0_0 : Kd.C (Kd.slice 113 k113) w A0_0 l0_0.length l0_0) (hc0_0 : l0_0.length ≤ c0_0) (h : leadtrailref08_Count.f k l0_0 a0_1 = some r) :
 Calls Try.prog 81 #[.agg #[.slice A0_0 l0_0.length c0_0, .int .i64 a0_1]] w fun e w' => e = .returned (.int .i64 r) ∧ Below w.heap.size w w' := by
 have hu50 := Try.underlying50; have HR0_0 := zk hr0_0; have HC0_0 := zk hc0_0; clear hr0_0 hc0_0; have HB := zk (Below.refl w.heap.size w); have H : (leadtrailref08_Count.l0 k 1 0 l0_0 a0_1) = some r := h; clear h; have H' := zk H; clear H; go_enter Try.func81, Try.ntmps81
 go_wp2_with (first | ((with_reducible refine gate_dst (N := 1) rfl ?_); refine box_event ?hg (N := 1) ?hd (cs := #[.slice A0_0 l0_0.length c0_0, .int .i64 a0_1]) (t := 50) ?hr ?_; (case hd => rfl); (case hg => rfl); (case hr => first | (go_simp; done) | (go_simp; rfl)); intro gb363 hg w2 hbox hb; have BK363 := zk (hbox); have GE363 := zk ((zg hg HB.out : w.heap.size ≤ gb363)); replace HB := zk (below_step (zU HB.out) hb);  clear hb hbox hg))
 go_loopg [3, 4] k (fun kq v3 v4 w' => ∃ (x3_1 : Int) (x4_1 : Int), v3 = .int .i64 x3_1 ∧ v4 = .int .i64 x4_1 ∧ Aside0 (leadtrailref08_Count.l0 kq x3_1 x4_1 l0_0 a0_1 = some r) ∧ Aside0 (kq ≤ k) ∧ Aside0 (w'.heap[gb363]? = some (.cells #[(.slice A0_0 l0_0.length c0_0), .int .i64 a0_1] 50 (0, 0))) ∧ Aside0 (Below w.heap.size w w'))
 case atStart => exact ⟨(1), (0), zR, zR, H', ⟨Nat.le_refl _⟩, ⟨zb BK363.out⟩, ⟨zU HB.out⟩⟩
 case round =>
  clear H'; (try clear p2); obtain ⟨x3_1, x4_1, rfl, rfl, HA, HK1, BK363, HB⟩ := hrel
  cases gk with
  | zero => exact absurd HA.out (by simp [leadtrailref08_Count.l0])
  | succ k1 =>
   have H := HA.out; clear HA; simp only [leadtrailref08_Count.l0] at H; by_cases c3 : x4_1 < (l0_0.length : Int)
   ·rw [if_pos c3] at H; have c3b0 : decide (x4_1 < (l0_0.length : Int)) = true := decide_eq_true c3; clear c3; by_cases c4 : 0 ≤ x4_1
    ·rw [if_pos c4] at H; have c4b0 : decide (0 ≤ x4_1) = true := decide_eq_true c4; clear c4; replace H := Option.bind_eq_some_iff.mp H; obtain ⟨t365, A50, H⟩ := H; replace H : (if (wrap64 (x3_1 * t365)) > 1073741824 then (leadtrailref08_Count.l0 k1 1073741825 (wrap64 (x4_1 + 1)) l0_0 a0_1) else (leadtrailref08_Count.l0 k1 (wrap64 (x3_1 * t365)) (wrap64 (x4_1 + 1)) l0_0 a0_1)) = some r := H; have A5 := zk A50; clear A50; by_cases c6 : (wrap64 (x3_1 * t365)) > 1073741824
     ·rw [if_pos c6] at H; have c6b0 : decide (1073741824 < (wrap64 (x3_1 * t365))) = true := decide_eq_true c6; clear c6; have H' := zk H; clear H; have hcz7_0 : wr.cell? ⟨gb363, 0, none⟩ = some (.slice A0_0 l0_0.length c0_0) := zh BK363.out 0; have hcz7_1 : wr.cell? ⟨gb363, 1, none⟩ = some (.int .i64 a0_1) := zh BK363.out 1; have hfz7_0 := blk_frozen BK363.out 0; have hfz7_1 := blk_frozen BK363.out 1; have p364 : 0 ≤ (x4_1 : Int) := zT; have q364 : x4_1 < (l0_0.length : Int) := zT; obtain ⟨ad364, A364_0, c364_0, e364, hx364_0, hl364_0, hi364_0⟩ := at_L4 HR0_0.out x4_1 p364 q364; cases e364; replace hx364_0 := zcl HB.out hx364_0; have HR364_0 := zk hi364_0; have HC364_0 := zk hl364_0; clear hi364_0 hl364_0; replace p364 := eq_true p364; replace q364 := eq_true q364; go_wp2_with (first | ((with_reducible refine gate_callee (f := 101) rfl ?_); refine goesL_ (some 18) rfl rfl Try.func101 zz rfl #[.slice A364_0 (rd_L4 l0_0 x4_1).length c364_0] rfl zM ?_; (with_reducible refine (leadtrailref03_Size.calls k1 _ _ (rd_L4 l0_0 x4_1) t365 _ ?side1 ?side2 A5.out).mono ?_); (case side1 => exact zc (Kd.C_below HR364_0.out HB.out)); (case side2 => exact HC364_0.out); rintro e w8 ⟨rfl, hb⟩; refine ⟨_, rfl, ?_⟩; replace BK363 := zk (zbb BK363.out hb); replace HB := zk (below_step (zU HB.out) hb);  (try clear hb); (try clear hb2); (try clear hk); (try clear hi)))
      go_roundg k1
      case measure => have := HK1.out; omega
      case rel => exact ⟨(1073741825), (wrap64 (x4_1 + 1)), zR, zR, H', ⟨by have := HK1.out; omega⟩, ⟨zb BK363.out⟩, ⟨zU HB.out⟩⟩
     ·rw [if_neg c6] at H; have c6b0 : decide (1073741824 < (wrap64 (x3_1 * t365))) = false := decide_eq_false c6; clear c6; have H' := zk H; clear H; have hcz9_0 : wr.cell? ⟨gb363, 0, none⟩ = some (.slice A0_0 l0_0.length c0_0) := zh BK363.out 0; have hcz9_1 : wr.cell? ⟨gb363, 1, none⟩ = some (.int .i64 a0_1) := zh BK363.out 1; have hfz9_0 := blk_frozen BK363.out 0; have hfz9_1 := blk_frozen BK363.out 1; have p364 : 0 ≤ (x4_1 : Int) := zT; have q364 : x4_1 < (l0_0.length : Int) := zT; obtain ⟨ad364, A364_0, c364_0, e364, hx364_0, hl364_0, hi364_0⟩ := at_L4 HR0_0.out x4_1 p364 q364; cases e364; replace hx364_0 := zcl HB.out hx364_0; have HR364_0 := zk hi364_0; have HC364_0 := zk hl364_0; clear hi364_0 hl364_0; replace p364 := eq_true p364; replace q364 := eq_true q364; go_wp2_with (first | ((with_reducible refine gate_callee (f := 101) rfl ?_); refine goesL_ (some 18) rfl rfl Try.func101 zz rfl #[.slice A364_0 (rd_L4 l0_0 x4_1).length c364_0] rfl zM ?_; (with_reducible refine (leadtrailref03_Size.calls k1 _ _ (rd_L4 l0_0 x4_1) t365 _ ?side1 ?side2 A5.out).mono ?_); (case side1 => exact zc (Kd.C_below HR364_0.out HB.out)); (case side2 => exact HC364_0.out); rintro e w10 ⟨rfl, hb⟩; refine ⟨_, rfl, ?_⟩; replace BK363 := zk (zbb BK363.out hb); replace HB := zk (below_step (zU HB.out) hb);  (try clear hb); (try clear hb2); (try clear hk); (try clear hi)))
      go_roundg k1
      case measure => have := HK1.out; omega
      case rel => exact ⟨(wrap64 (x3_1 * t365)), (wrap64 (x4_1 + 1)), zR, zR, H', ⟨by have := HK1.out; omega⟩, ⟨zb BK363.out⟩, ⟨zU HB.out⟩⟩
    ·rw [if_neg c4] at H; exact absurd H (by simp)
   ·rw [if_neg c3] at H; have c3b0 : decide (x4_1 < (l0_0.length : Int)) = false := decide_eq_false c3; clear c3; obtain rfl := Option.some.inj H; have hcz11_0 : wr.cell? ⟨gb363, 0, none⟩ = some (.slice A0_0 l0_0.length c0_0) := zh BK363.out 0; have hcz11_1 : wr.cell? ⟨gb363, 1, none⟩ = some (.int .i64 a0_1) := zh BK363.out 1; have hfz11_0 := blk_frozen BK363.out 0; have hfz11_1 := blk_frozen BK363.out 1; go_wp2
    go_ret
    exact ⟨ze, zU HB.out⟩
end Go.Proofs.Ytkcklnmbeinfkaa.B
