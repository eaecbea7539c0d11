/- Words and walks of this claim, of the text Ix7. -/
import Derived.Test.YtoljcfocgaonpaaKeQW0
import Derived.Test.YtoljcfocgaonpaaKeIx0
import Derived.Test.YtoljcfocgaonpaaKeIx1
import Derived.Test.YtoljcfocgaonpaaKeIx6
namespace Go.Proofs.Ytoljcfocgaonpaa.I
open Go.RowKit Go.Proofs.YtoljcfocgaonpaaW.PrintWords Go.Proofs.YtoljcfocgaonpaaW.PrintLast Go.Proofs.YtoljcfocgaonpaaW.PrintMore
attribute [local go_sem] max2_int min2_int max_two min_two max_three min_three max_four min_four
set_option linter.unusedVariables false
set_option linter.unusedSimpArgs false
attribute [local go_sem high] eqA34
def leadtrailref03_Valid.l0 : Nat → List (S34) → Int → Option (Bool)
 | 0, _, _ => none
 | k + 1, x0, x3 => if x3 < (x0.length : Int) then (if 0 ≤ x3 then (if ((rd_T34 x0 x3).f0) < 0 then (some false) else (if ((rd_T34 x0 x3).f0) > ((rd_T34 x0 x3).f1) then (some false) else (if ((rd_T34 x0 x3).f1) > 255 then (some false) else (if x3 > 0 then (if 0 ≤ (wrap64 (x3 - 1)) then (if (wrap64 (x3 - 1)) < (x0.length : Int) then (if ((rd_T34 x0 x3).f0) ≤ (wrap64 (((rd_T34 x0 (wrap64 (x3 - 1))).f1) + 1)) then (some false) else (leadtrailref03_Valid.l0 k x0 (wrap64 (x3 + 1)))) else (none)) else (none)) else (leadtrailref03_Valid.l0 k x0 (wrap64 (x3 + 1))))))) else (none)) else (some true)
def leadtrailref03_Valid.f (k : Nat) (l0 : List (S34)) : Option (Bool) := leadtrailref03_Valid.l0 k l0 0
set_option maxHeartbeats 8000000 in
set_option maxRecDepth 100000 in
theorem leadtrailref03_Valid.calls (k : Nat) (A0 : Option Addr) (c0 : Nat) (l0 : List (S34)) (r : Bool) (w : World) (hr0 : Kd.C k34 w A0 l0.length l0) (hc0 : l0.length ≤ c0) (h : leadtrailref03_Valid.f k l0 = some r) :
 Calls Try.prog 111 #[.slice A0 l0.length c0] w fun e w' => e = .returned (.bool r) ∧ Drawn0 w w' := by
 have HR0 := zk hr0; have HC0 := zk hc0; clear hr0 hc0; have H : (leadtrailref03_Valid.l0 k l0 0) = some r := h; clear h; have H' := zk H; clear H; go_enter Try.func111, Try.ntmps111
 go_wp2
 repeat (go_quiet (fail); try go_wp2)
 go_loopg [3] k (fun kq v3 w' => ∃ (x3_1 : Int), v3 = .int .i64 x3_1 ∧ Aside0 (leadtrailref03_Valid.l0 kq l0 x3_1 = some r) ∧ Aside0 (kq ≤ k) ∧ Drawn0 w w')
 case atStart => exact ⟨(0), zR, H', ⟨Nat.le_refl _⟩, by repeat (first | exact Drawn0.refl _ | apply Drawn0.step)⟩
 case round =>
  clear H'; (try clear c1); obtain ⟨x3_1, rfl, HA, HK1, ⟨m1, rfl⟩⟩ := hrel
  cases gk with
  | zero => exact absurd HA.out (by simp [leadtrailref03_Valid.l0])
  | succ k1 =>
   have H := HA.out; clear HA; simp only [leadtrailref03_Valid.l0] at H; by_cases c2 : x3_1 < (l0.length : Int)
   ·rw [if_pos c2] at H; have c2b0 : decide (x3_1 < (l0.length : Int)) = true := decide_eq_true c2; clear c2; by_cases c3 : 0 ≤ x3_1
    ·rw [if_pos c3] at H; have c3b0 : decide (0 ≤ x3_1) = true := decide_eq_true c3; clear c3; by_cases c4 : ((rd_T34 l0 x3_1).f0) < 0
     ·rw [if_pos c4] at H; have c4b0 : decide (((rd_T34 l0 x3_1).f0) < 0) = true := decide_eq_true c4; clear c4; obtain rfl := Option.some.inj H; have p182 : 0 ≤ (x3_1 : Int) := zT; have q182 : x3_1 < (l0.length : Int) := zT; obtain ⟨ad182, e182, hx182_0, hx182_1⟩ := at_T34 HR0.out x3_1 p182 q182; cases e182; replace p182 := eq_true p182; replace q182 := eq_true q182; go_wp2
      repeat (go_quiet (fail); try go_wp2)
      go_ret
      exact ⟨by first | rfl | (simp; done) | (simp [*]; done), by repeat (first | exact Drawn0.refl _ | apply Drawn0.step)⟩
     ·rw [if_neg c4] at H; have c4b0 : decide (((rd_T34 l0 x3_1).f0) < 0) = false := decide_eq_false c4; clear c4; by_cases c5 : ((rd_T34 l0 x3_1).f0) > ((rd_T34 l0 x3_1).f1)
      ·rw [if_pos c5] at H; have c5b0 : decide (((rd_T34 l0 x3_1).f1) < ((rd_T34 l0 x3_1).f0)) = true := decide_eq_true c5; clear c5; obtain rfl := Option.some.inj H; have p182 : 0 ≤ (x3_1 : Int) := zT; have q182 : x3_1 < (l0.length : Int) := zT; obtain ⟨ad182, e182, hx182_0, hx182_1⟩ := at_T34 HR0.out x3_1 p182 q182; cases e182; replace p182 := eq_true p182; replace q182 := eq_true q182; have p183 : 0 ≤ (x3_1 : Int) := zT; have q183 : x3_1 < (l0.length : Int) := zT; obtain ⟨ad183, e183, hx183_0, hx183_1⟩ := at_T34 HR0.out x3_1 p183 q183; obtain rfl : ad182 = ad183 := (by injection e183); replace p183 := eq_true p183; replace q183 := eq_true q183; have p184 : 0 ≤ (x3_1 : Int) := zT; have q184 : x3_1 < (l0.length : Int) := zT; obtain ⟨ad184, e184, hx184_0, hx184_1⟩ := at_T34 HR0.out x3_1 p184 q184; obtain rfl : ad182 = ad184 := (by injection e184); replace p184 := eq_true p184; replace q184 := eq_true q184; go_wp2
       repeat (go_quiet (fail); try go_wp2)
       go_ret
       exact ⟨by first | rfl | (simp; done) | (simp [*]; done), by repeat (first | exact Drawn0.refl _ | apply Drawn0.step)⟩
      ·rw [if_neg c5] at H; have c5b0 : decide (((rd_T34 l0 x3_1).f1) < ((rd_T34 l0 x3_1).f0)) = false := decide_eq_false c5; clear c5; by_cases c6 : ((rd_T34 l0 x3_1).f1) > 255
       ·rw [if_pos c6] at H; have c6b0 : decide (255 < ((rd_T34 l0 x3_1).f1)) = true := decide_eq_true c6; clear c6; obtain rfl := Option.some.inj H; have p182 : 0 ≤ (x3_1 : Int) := zT; have q182 : x3_1 < (l0.length : Int) := zT; obtain ⟨ad182, e182, hx182_0, hx182_1⟩ := at_T34 HR0.out x3_1 p182 q182; cases e182; replace p182 := eq_true p182; replace q182 := eq_true q182; have p183 : 0 ≤ (x3_1 : Int) := zT; have q183 : x3_1 < (l0.length : Int) := zT; obtain ⟨ad183, e183, hx183_0, hx183_1⟩ := at_T34 HR0.out x3_1 p183 q183; obtain rfl : ad182 = ad183 := (by injection e183); replace p183 := eq_true p183; replace q183 := eq_true q183; have p184 : 0 ≤ (x3_1 : Int) := zT; have q184 : x3_1 < (l0.length : Int) := zT; obtain ⟨ad184, e184, hx184_0, hx184_1⟩ := at_T34 HR0.out x3_1 p184 q184; obtain rfl : ad182 = ad184 := (by injection e184); replace p184 := eq_true p184; replace q184 := eq_true q184; have p185 : 0 ≤ (x3_1 : Int) := zT; have q185 : x3_1 < (l0.length : Int) := zT; obtain ⟨ad185, e185, hx185_0, hx185_1⟩ := at_T34 HR0.out x3_1 p185 q185; obtain rfl : ad182 = ad185 := (by injection e185); replace p185 := eq_true p185; replace q185 := eq_true q185; go_wp2
        repeat (go_quiet (fail); try go_wp2)
        go_ret
        exact ⟨by first | rfl | (simp; done) | (simp [*]; done), by repeat (first | exact Drawn0.refl _ | apply Drawn0.step)⟩
       ·rw [if_neg c6] at H; have c6b0 : decide (255 < ((rd_T34 l0 x3_1).f1)) = false := decide_eq_false c6; clear c6; by_cases c7 : x3_1 > 0
        ·rw [if_pos c7] at H; have c7b0 : decide (0 < x3_1) = true := decide_eq_true c7; clear c7; obtain ⟨ji8, hji8⟩ : ∃ j_ : Int, (wrap64 (x3_1 - 1)) = j_ := ⟨_, rfl⟩
         replace H : (if 0 ≤ (ji8) then (if (ji8) < (l0.length : Int) then (if ((rd_T34 l0 x3_1).f0) ≤ (wrap64 (((rd_T34 l0 (ji8)).f1) + 1)) then (some false) else (leadtrailref03_Valid.l0 k1 l0 (wrap64 (x3_1 + 1)))) else (none)) else (none)) = some r := by first | (rw [hji8] at H; exact H) | (simp only [hji8] at H ⊢; exact H)
         have hji8w : (IntKind.i64.wrap (x3_1 - 1)) = ji8 := (i64_w _).trans hji8; by_cases c9 : 0 ≤ (ji8)
         ·rw [if_pos c9] at H; have c9b0 : decide (0 ≤ (ji8)) = true := decide_eq_true c9; clear c9; by_cases c10 : (ji8) < (l0.length : Int)
          ·rw [if_pos c10] at H; have c10b0 : decide ((ji8) < (l0.length : Int)) = true := decide_eq_true c10; clear c10; by_cases c11 : ((rd_T34 l0 x3_1).f0) ≤ (wrap64 (((rd_T34 l0 (ji8)).f1) + 1))
           ·rw [if_pos c11] at H; have c11b0 : decide (((rd_T34 l0 x3_1).f0) ≤ (wrap64 (((rd_T34 l0 (ji8)).f1) + 1))) = true := decide_eq_true c11; clear c11; obtain rfl := Option.some.inj H; have p182 : 0 ≤ (x3_1 : Int) := zT; have q182 : x3_1 < (l0.length : Int) := zT; obtain ⟨ad182, e182, hx182_0, hx182_1⟩ := at_T34 HR0.out x3_1 p182 q182; cases e182; replace p182 := eq_true p182; replace q182 := eq_true q182; have p183 : 0 ≤ (x3_1 : Int) := zT; have q183 : x3_1 < (l0.length : Int) := zT; obtain ⟨ad183, e183, hx183_0, hx183_1⟩ := at_T34 HR0.out x3_1 p183 q183; obtain rfl : ad182 = ad183 := (by injection e183); replace p183 := eq_true p183; replace q183 := eq_true q183; have p184 : 0 ≤ (x3_1 : Int) := zT; have q184 : x3_1 < (l0.length : Int) := zT; obtain ⟨ad184, e184, hx184_0, hx184_1⟩ := at_T34 HR0.out x3_1 p184 q184; obtain rfl : ad182 = ad184 := (by injection e184); replace p184 := eq_true p184; replace q184 := eq_true q184; have p185 : 0 ≤ (x3_1 : Int) := zT; have q185 : x3_1 < (l0.length : Int) := zT; obtain ⟨ad185, e185, hx185_0, hx185_1⟩ := at_T34 HR0.out x3_1 p185 q185; obtain rfl : ad182 = ad185 := (by injection e185); replace p185 := eq_true p185; replace q185 := eq_true q185; have p186 : 0 ≤ (x3_1 : Int) := zT; have q186 : x3_1 < (l0.length : Int) := zT; obtain ⟨ad186, e186, hx186_0, hx186_1⟩ := at_T34 HR0.out x3_1 p186 q186; obtain rfl : ad182 = ad186 := (by injection e186); replace p186 := eq_true p186; replace q186 := eq_true q186; have p187 : 0 ≤ ((ji8) : Int) := zT; have q187 : (ji8) < (l0.length : Int) := zT; obtain ⟨ad187, e187, hx187_0, hx187_1⟩ := at_T34 HR0.out (ji8) p187 q187; obtain rfl : ad182 = ad187 := (by injection e187); replace p187 := eq_true p187; replace q187 := eq_true q187; go_wp2
            repeat (go_quiet (fail); try go_wp2)
            go_ret
            exact ⟨by first | rfl | (simp; done) | (simp only [← hji8] <;> (first | rfl | simp)) | (simp [*]; done), by repeat (first | exact Drawn0.refl _ | apply Drawn0.step)⟩
           ·rw [if_neg c11] at H; have c11b0 : decide (((rd_T34 l0 x3_1).f0) ≤ (wrap64 (((rd_T34 l0 (ji8)).f1) + 1))) = false := decide_eq_false c11; clear c11; have H' := zk H; clear H; have p182 : 0 ≤ (x3_1 : Int) := zT; have q182 : x3_1 < (l0.length : Int) := zT; obtain ⟨ad182, e182, hx182_0, hx182_1⟩ := at_T34 HR0.out x3_1 p182 q182; cases e182; replace p182 := eq_true p182; replace q182 := eq_true q182; have p183 : 0 ≤ (x3_1 : Int) := zT; have q183 : x3_1 < (l0.length : Int) := zT; obtain ⟨ad183, e183, hx183_0, hx183_1⟩ := at_T34 HR0.out x3_1 p183 q183; obtain rfl : ad182 = ad183 := (by injection e183); replace p183 := eq_true p183; replace q183 := eq_true q183; have p184 : 0 ≤ (x3_1 : Int) := zT; have q184 : x3_1 < (l0.length : Int) := zT; obtain ⟨ad184, e184, hx184_0, hx184_1⟩ := at_T34 HR0.out x3_1 p184 q184; obtain rfl : ad182 = ad184 := (by injection e184); replace p184 := eq_true p184; replace q184 := eq_true q184; have p185 : 0 ≤ (x3_1 : Int) := zT; have q185 : x3_1 < (l0.length : Int) := zT; obtain ⟨ad185, e185, hx185_0, hx185_1⟩ := at_T34 HR0.out x3_1 p185 q185; obtain rfl : ad182 = ad185 := (by injection e185); replace p185 := eq_true p185; replace q185 := eq_true q185; have p186 : 0 ≤ (x3_1 : Int) := zT; have q186 : x3_1 < (l0.length : Int) := zT; obtain ⟨ad186, e186, hx186_0, hx186_1⟩ := at_T34 HR0.out x3_1 p186 q186; obtain rfl : ad182 = ad186 := (by injection e186); replace p186 := eq_true p186; replace q186 := eq_true q186; have p187 : 0 ≤ ((ji8) : Int) := zT; have q187 : (ji8) < (l0.length : Int) := zT; obtain ⟨ad187, e187, hx187_0, hx187_1⟩ := at_T34 HR0.out (ji8) p187 q187; obtain rfl : ad182 = ad187 := (by injection e187); replace p187 := eq_true p187; replace q187 := eq_true q187; go_wp2
            repeat (go_quiet (fail); try go_wp2)
            go_roundg k1
            case measure => have := HK1.out; omega
            case rel => exact ⟨(wrap64 (x3_1 + 1)), zR, H', ⟨by have := HK1.out; omega⟩, by repeat (first | exact Drawn0.refl _ | apply Drawn0.step)⟩
          ·rw [if_neg c10] at H; exact absurd H (by simp)
         ·rw [if_neg c9] at H; exact absurd H (by simp)
        ·rw [if_neg c7] at H; have c7b0 : decide (0 < x3_1) = false := decide_eq_false c7; clear c7; have H' := zk H; clear H; have p182 : 0 ≤ (x3_1 : Int) := zT; have q182 : x3_1 < (l0.length : Int) := zT; obtain ⟨ad182, e182, hx182_0, hx182_1⟩ := at_T34 HR0.out x3_1 p182 q182; cases e182; replace p182 := eq_true p182; replace q182 := eq_true q182; have p183 : 0 ≤ (x3_1 : Int) := zT; have q183 : x3_1 < (l0.length : Int) := zT; obtain ⟨ad183, e183, hx183_0, hx183_1⟩ := at_T34 HR0.out x3_1 p183 q183; obtain rfl : ad182 = ad183 := (by injection e183); replace p183 := eq_true p183; replace q183 := eq_true q183; have p184 : 0 ≤ (x3_1 : Int) := zT; have q184 : x3_1 < (l0.length : Int) := zT; obtain ⟨ad184, e184, hx184_0, hx184_1⟩ := at_T34 HR0.out x3_1 p184 q184; obtain rfl : ad182 = ad184 := (by injection e184); replace p184 := eq_true p184; replace q184 := eq_true q184; have p185 : 0 ≤ (x3_1 : Int) := zT; have q185 : x3_1 < (l0.length : Int) := zT; obtain ⟨ad185, e185, hx185_0, hx185_1⟩ := at_T34 HR0.out x3_1 p185 q185; obtain rfl : ad182 = ad185 := (by injection e185); replace p185 := eq_true p185; replace q185 := eq_true q185; go_wp2
         repeat (go_quiet (fail); try go_wp2)
         go_roundg k1
         case measure => have := HK1.out; omega
         case rel => exact ⟨(wrap64 (x3_1 + 1)), zR, H', ⟨by have := HK1.out; omega⟩, by repeat (first | exact Drawn0.refl _ | apply Drawn0.step)⟩
    ·rw [if_neg c3] at H; exact absurd H (by simp)
   ·rw [if_neg c2] at H; have c2b0 : decide (x3_1 < (l0.length : Int)) = false := decide_eq_false c2; clear c2; obtain rfl := Option.some.inj H; go_wp2
    repeat (go_quiet (fail); try go_wp2)
    go_ret
    exact ⟨by first | rfl | (simp; done) | (simp [*]; done), by repeat (first | exact Drawn0.refl _ | apply Drawn0.step)⟩
def bitsV (p : Nat → Bool) : Array Value := ((List.range 256).map fun i => Value.bool (p i)).toArray
theorem bitsV_size (p : Nat → Bool) : (bitsV p).size = 256 := by simp [bitsV]
theorem bitsV_get (p : Nat → Bool) (i : Nat) (h : i < 256) : (bitsV p)[i]? = some (.bool (p i)) := by simp [bitsV, h]
theorem bitsV_congr {p q : Nat → Bool} (h : ∀ i, i < 256 → p i = q i) : bitsV p = bitsV q := by
 unfold bitsV; congr 1; exact List.map_congr_left fun i hi => by rw [h i (List.mem_range.1 hi)]
theorem bitsV_set (p : Nat → Bool) (i : Nat) (b : Bool) : (bitsV p).setIfInBounds i (.bool b) = bitsV (fun j => if j = i then b else p j) := by
 apply Array.ext
 ·simp [bitsV]
 ·intro j h1 h2; have hj : j < 256 := by simpa [bitsV] using h2
  rw [Array.getElem_setIfInBounds (by rw [bitsV_size]; exact hj)]; by_cases h : i = j
  ·subst h; simp [bitsV]
  ·rw [if_neg h]; simp [bitsV, Ne.symm h]
theorem bits_zero : Try.zeroCells99 = bitsV fun _ => false := by kernel_rfl
theorem blk_new2 (w : World) (o o' : Obj) : ((w.alloc o).alloc o').heap[w.heap.size + 1]? = some o' := by
 have h := blk_new (w.alloc o) o'; rwa [show (w.alloc o).heap.size = w.heap.size + 1 from by simp only [World.alloc, Array.size_push]] at h
theorem wp_load_blk {P : Program} {op : Oper} {a : Act} {w : World} {K : Act → World → Prop} {Q : Exit → Act → World → Prop} (ty : TypeId) (x : Operand) (ho : op.op = .load ty x)
 (g : Nat) (hx : a.eval x = .pointer (some ⟨g, 0, none⟩)) (c : Array Value) (hg : w.heap[g]? = some (.cells c ty (0, 0))) (n : Nat) (e : TypeId) (hu : P.underlying ty = some (.array n e)) (hi : (P.info? ty).map (·.size) = some c.size)
 (h : K (a.put op.dst (.agg c)) w) : op.wp P a w K Q := by
 unfold Oper.wp execOp; simp only [ho, hx, Instr.loadAt, Instr.sureAddr, Sem.run_bind, Sem.run_pure, Result.andThen_ok, run_loadVar_row _ _ ty ty c (0, 0) _ hg hu rfl hi]; exact h
theorem run_store_blk {P : Program} (w : World) (g : Nat) (t : TypeId) (c c' : Array Value) (hg : w.heap[g]? = some (.cells c t (0, 0))) (hi : (P.info? t).map (·.size) = some c'.size) (hs : c.size = c'.size) (h1 : c'.all (·.oneCell') = true) :
 Sem.run P (storeCells ⟨g, 0, none⟩ c'.toList 0) w = .ok () (w.setRow g c') := by
 have h := run_storeVar_row (P := P) w g t t c c' hg hi hs h1; cases hq : P.info? t with
 | none => simp [hq] at hi
 | some i =>
  have hs : i.size = c'.size := by simp [hq] at hi; omega
  simpa [storeVar, sizeOf, typeInfo, hq, hs, Value.cells] using h
theorem blk_row (w : World) (g : Nat) (c c' : Array Value) {t : TypeId} (hg : w.heap[g]? = some (.cells c t (0, 0))) : (w.setRow g c').heap[g]? = some (.cells c' t (0, 0)) := setRow_heap w g c c' t (0, 0) hg
theorem bits_one (p : Nat → Bool) : (bitsV p).all (·.oneCell') = true := by
 rw [Array.all_eq_true_iff_forall_mem]; intro v hv; simp [bitsV] at hv; obtain ⟨i, _, rfl⟩ := hv; rfl
theorem hu99 : Try.prog.underlying 99 = some (.array 256 4) := by kernel_rfl
theorem hi99 (p : Nat → Bool) : (Try.prog.info? 99).map (·.size) = some (bitsV p).size := by rw [bitsV_size]; kernel_rfl
theorem w64' {x : Int} (h0 : -9223372036854775808 ≤ x) (h1 : x ≤ 9223372036854775807) : wrap64 x = x := by unfold wrap64; omega
def pieceHas (r : S34) (i : Nat) : Bool := decide (r.f0 ≤ i) && decide ((i : Int) ≤ r.f1)
def hasAny (l : List S34) (i : Nat) : Bool := l.any fun r => pieceHas r i
def okPiece (r : S34) : Bool := decide (0 ≤ r.f0) && decide (r.f0 ≤ r.f1) && decide (r.f1 ≤ 255)
set_option maxHeartbeats 8000000 in
set_option maxRecDepth 100000 in
theorem R3Members.calls (k : Nat) (A0 : Option Addr) (c0 : Nat) (l0 : List S34) (b : Bool) (w : World) (hr0 : Kd.C k34 w A0 l0.length l0) (hc0 : l0.length ≤ c0) (h : leadtrailref03_Valid.f k l0 = some b) (hok : b = true → ∀ r ∈ l0, okPiece r = true) (hsm : l0.length ≤ 8796093022207) :
 Calls Try.prog 61 #[.slice A0 l0.length c0] w fun e w' => e = .returned (.agg (bitsV fun i => b && hasAny l0 i)) ∧ Below w.heap.size w w' := by
 have HR0 := zk hr0; have HC0 := zk hc0; clear hr0 hc0; have HB := zk (Below.refl w.heap.size w); have HRw := HR0; cases b with
 | false =>
  go_enter Try.func61, Try.ntmps61
  go_wp2_with (go_at_call 111; (with_reducible refine (leadtrailref03_Valid.calls k _ _ l0 _ _ ?side1 ?side2 h).mono ?_); (case side1 => exact zc HR0.out); (case side2 => exact HC0.out); rintro e w1 ⟨rfl, hb⟩; have B2 := zk (show w1.heap[w.heap.size]? = some (.cells (bitsV fun _ => false) 99 (0, 0)) by obtain ⟨n, rfl⟩ := hb.out; rw [← bits_zero]; exact blk_drewN (blk_alloc (blk_new w _) _) _); have B3 := zk (show w1.heap[w.heap.size + 1]? = some (.cells (bitsV fun _ => false) 99 (0, 0)) by obtain ⟨n, rfl⟩ := hb.out; rw [← bits_zero]; exact blk_drewN (blk_new2 w _ _) _); have n1_ := zk (below_step (below_alloc (below_alloc HB.out _) _) hb.below); have n2_ := zk (Kd.C_below (Kd.C_alloc (Kd.C_alloc HR0.out _) _) hb.below); clear HB HR0 hb; have HB := n1_; have HR0 := n2_; clear n1_ n2_)
  refine wp_load_blk 99 (.tmp 3) rfl (w.heap.size + 1) rfl _ B3.out 256 4 hu99 (hi99 _) ?_; go_wp2
  rw [run_store_blk w1 w.heap.size 99 _ (bitsV fun _ => false) B2.out (hi99 _) (by simp [bitsV_size]) (bits_one _)]; have hB := blk_row w1 w.heap.size _ (bitsV fun _ => false) B2.out; go_wp2
  refine bodyPost_ret (results_cell_row (by exact Try.results61) _ _ w.heap.size 99 (bitsV fun _ => false) (0, 0) (.array 256 4) ?hp hB hu99 rfl (hi99 _)) rfl ?_
  case hp => rfl
  exact ⟨by simp only [Bool.false_and], below_setRow HB.out (Nat.le_refl _) _⟩
 | true =>
  go_enter Try.func61, Try.ntmps61
  go_wp2_with (go_at_call 111; (with_reducible refine (leadtrailref03_Valid.calls k _ _ l0 _ _ ?side1 ?side2 h).mono ?_); (case side1 => exact zc HR0.out); (case side2 => exact HC0.out); rintro e w1 ⟨rfl, hb⟩; have B2 := zk (show w1.heap[w.heap.size]? = some (.cells (bitsV fun _ => false) 99 (0, 0)) by obtain ⟨n, rfl⟩ := hb.out; rw [← bits_zero]; exact blk_drewN (blk_alloc (blk_new w _) _) _); have B3 := zk (show w1.heap[w.heap.size + 1]? = some (.cells (bitsV fun _ => false) 99 (0, 0)) by obtain ⟨n, rfl⟩ := hb.out; rw [← bits_zero]; exact blk_drewN (blk_new2 w _ _) _); have n1_ := zk (below_step (below_alloc (below_alloc HB.out _) _) hb.below); clear HB hb; have HB := n1_; clear n1_)
  have hgt := hok trivial; go_loopg [4] (l0.length + 1) (fun kq v4 w' => ∃ n : Nat, v4 = .int .i64 (n : Int) ∧ Aside0 (n + kq = l0.length + 1 ∧ n ≤ l0.length) ∧ Aside0 (w'.heap[w.heap.size]? = some (.cells (bitsV fun _ => false) 99 (0, 0))) ∧ Aside0 (w'.heap[w.heap.size + 1]? = some (.cells (bitsV fun i => hasAny (l0.take n) i) 99 (0, 0))) ∧ Aside0 (Below w.heap.size w w'))
  case atStart => exact ⟨0, rfl, ⟨by omega, by omega⟩, B2, ⟨by simpa [hasAny] using B3.out⟩, HB⟩
  case round =>
   obtain ⟨n, rfl, HN, C2, C3, HB'⟩ := hrel; have hN := HN.out
   cases gk with
   | zero => exact absurd hN (by omega)
   | succ ko =>
   by_cases c : n < l0.length
   ·have p : 0 ≤ (n : Int) := by omega
    have q : (n : Int) < (l0.length : Int) := by omega
    obtain ⟨ad, e, hx0, hx1⟩ := at_T34 (Kd.C_below HRw.out HB'.out) n p q; cases e; simp only [Int.toNat_natCast] at hx0 hx1; have cb : decide ((n : Int) < (l0.length : Int)) = true := decide_eq_true q; have hnr := zk (show l0[n]? = some (rd_T34 l0 n) by simp [rd_T34, List.getD, c]); have hr := zk (show okPiece (rd_T34 l0 n) = true from hgt _ (List.mem_of_getElem? hnr.out)); have c0_ := zk c; have cb2 : decide (n < l0.length) = true := decide_eq_true c; clear c hN; replace p := eq_true p; replace q := eq_true q; go_wp2
    clear hx0 hx1; generalize hrr : rd_T34 l0 n = r at hr hnr ⊢; have hb : 0 ≤ r.f0 ∧ r.f0 ≤ r.f1 ∧ r.f1 ≤ 255 := by simpa [okPiece, and_assoc] using hr.out
    have e0 : ((r.f0.toNat : Nat) : Int) = r.f0 := Int.toNat_of_nonneg hb.1; have hm0 : r.f0.toNat ≤ 255 := by omega
    go_loopg [5] (512 - r.f0.toNat) (fun kq v5 w' => ∃ m : Nat, v5 = .int .i64 (m : Int) ∧ Aside0 (m + kq = 512) ∧ Aside0 (r.f0 ≤ m ∧ (m : Int) ≤ r.f1 + 1) ∧ Aside0 (w'.heap[w.heap.size]? = some (.cells (bitsV fun _ => false) 99 (0, 0))) ∧ Aside0 (w'.heap[w.heap.size + 1]? = some (.cells (bitsV fun i => hasAny (l0.take n) i || (decide (r.f0 ≤ i) && decide (i < m))) 99 (0, 0))) ∧ Aside0 (Below w.heap.size w w'))
    case atStart => exact ⟨r.f0.toNat, by rw [e0], ⟨by omega⟩, ⟨by omega⟩, C2, ⟨by rw [C3.out, bitsV_congr (fun i _ => (by
     have : (decide (r.f0 ≤ (i : Int)) && decide (i < r.f0.toNat)) = false := by simp <;> omega
     rw [this, Bool.or_false] : hasAny (l0.take n) i = (hasAny (l0.take n) i || (decide (r.f0 ≤ (i : Int)) && decide (i < r.f0.toNat)))))]⟩, HB'⟩
    case round =>
     obtain ⟨m, rfl, HT, HL, D2, D3, HB2⟩ := hrel; have hL := HL.out; have hT := HT.out; obtain ⟨ad2, e2, hx0, hx1⟩ := at_T34 (Kd.C_below HRw.out HB2.out) n (by omega) (by have := c0_.out; omega); obtain rfl : ad = ad2 := by injection e2
     simp only [Int.toNat_natCast, hrr] at hx0 hx1
     cases gk with
     | zero => exact absurd hT (by omega)
     | succ k1 =>
      by_cases d : (m : Int) ≤ r.f1
      ·have db : decide ((m : Int) ≤ r.f1) = true := decide_eq_true d; have p2 : (0 ≤ (m : Int)) = True := eq_true (by omega); have q2 : ((m : Int) < 256) = True := eq_true (by omega); have hc := blk_cell D3.out m; rw [bitsV_get _ _ (by omega)] at hc; have hf := blk_frozen D3.out m; have d_ := zk d; clear d hL hT; go_wp2
       have hL := HL.out; have hT := HT.out; have d := d_.out; go_roundg k1
       case measure => omega
       case rel => exact ⟨m + 1, by rw [w64' (by omega) (by omega)]; simp, ⟨by omega⟩, ⟨by omega⟩, ⟨blk_far D2.out (by simp) _⟩, ⟨blk_put D3.out m _ ((bitsV_set _ _ _).trans (bitsV_congr fun i _ => (by
        by_cases hi : i = m
        ·subst hi; simp; right; omega
        ·rw [if_neg hi]; have : decide (i < m + 1) = decide (i < m) := by rw [decide_eq_decide]; omega
         rw [this])))⟩, ⟨below_set HB2.out (Nat.le_succ _)⟩⟩
      ·have db : decide ((m : Int) ≤ r.f1) = false := decide_eq_false d; have d_ := zk d; clear d hL hT; go_wp2
       have hL := HL.out; have hT := HT.out; have d := d_.out; have c := c0_.out; have hN := HN.out; go_roundg ko
       case measure => omega
       case rel => exact ⟨n + 1, by rw [w64' (by omega) (by omega)]; simp, ⟨by omega, by omega⟩, D2, ⟨by rw [D3.out, bitsV_congr (fun i _ => (by
        have e1 : l0.take (n + 1) = l0.take n ++ [r] := by rw [List.take_add_one, hnr.out]; rfl
        have e2 : decide (i < m) = decide ((i : Int) ≤ r.f1) := by rw [decide_eq_decide]; omega
        rw [e1, e2]; simp [hasAny, pieceHas] : (hasAny (l0.take n) i || (decide (r.f0 ≤ (i : Int)) && decide (i < m))) = hasAny (l0.take (n + 1)) i))]⟩, HB2⟩
   ·have hn := zk (show n = l0.length by omega); have cb : decide ((n : Int) < (l0.length : Int)) = false := decide_eq_false (by omega); have cb2 : decide (n < l0.length) = false := decide_eq_false c; clear c hN; go_wp2
    refine wp_load_blk 99 (.tmp 3) rfl (w.heap.size + 1) rfl _ C3.out 256 4 hu99 (hi99 _) ?_; go_wp2
    rw [run_store_blk _ w.heap.size 99 _ (bitsV fun i => hasAny (l0.take n) i) C2.out (hi99 _) (by simp [bitsV_size]) (bits_one _)]; have hB := blk_row _ w.heap.size _ (bitsV fun i => hasAny (l0.take n) i) C2.out; go_wp2
    refine bodyPost_ret (results_cell_row (by exact Try.results61) _ _ w.heap.size 99 (bitsV fun i => hasAny (l0.take n) i) (0, 0) (.array 256 4) ?hp hB hu99 rfl (hi99 _)) rfl ?_
    case hp => rfl
    exact ⟨by simp only [Bool.true_and]; rw [hn.out, List.take_length], below_setRow HB'.out (Nat.le_refl _) _⟩
def membersB (b : Bool) (l : List S34) (i : Nat) : Bool := b && hasAny l i
def leadtrailref03_memb (k : Nat) (l0 : List S34) : Option (Nat → Bool) := (leadtrailref03_Valid.f k l0).bind fun b => if l0.length ≤ 8796093022207 then (if b = true then (if l0.all okPiece = true then some (membersB true l0) else none) else some (membersB false l0)) else none
theorem memb_some {k : Nat} {l0 : List S34} {p : Nat → Bool} (h : leadtrailref03_memb k l0 = some p) : ∃ b, leadtrailref03_Valid.f k l0 = some b ∧ p = membersB b l0 ∧ (b = true → ∀ r ∈ l0, okPiece r = true) ∧ l0.length ≤ 8796093022207 := by
 obtain ⟨b, h1, h2⟩ := Option.bind_eq_some_iff.mp h; by_cases c : l0.length ≤ 8796093022207
 ·rw [if_pos c] at h2; cases b with
  | true =>
   simp only [if_true] at h2; by_cases d : l0.all okPiece = true
   ·rw [if_pos d] at h2; exact ⟨true, h1, (Option.some.inj h2).symm, fun _ => List.all_eq_true.1 d, c⟩
   ·rw [if_neg d] at h2; cases h2
  | false =>
   simp only [Bool.false_eq_true, if_false] at h2; exact ⟨false, h1, (Option.some.inj h2).symm, fun h => (by cases h), c⟩
 ·rw [if_neg c] at h2; cases h2
def cntB (p : Nat → Bool) : Nat → Nat
 | 0 => 0
 | n + 1 => cntB p n + if p n = true then 1 else 0
theorem cntB_le (p : Nat → Bool) : ∀ n, cntB p n ≤ n
 | 0 => Nat.le_refl _
 | n + 1 => by have := cntB_le p n; simp only [cntB]; split <;> omega
theorem run_store_new (w : World) (p : Nat → Bool) : Sem.run Try.prog (storeCells ⟨w.heap.size, 0, none⟩ (bitsV p).toList 0) (w.alloc (.cells Try.zeroCells99 99)) = .ok () (w.alloc (.cells (bitsV p) 99)) :=
 run_storeCells_new w 99 Try.zeroCells99 (bitsV p) (hi99 p) (by rw [bits_zero, bitsV_size, bitsV_size]) (bits_one p)
end Go.Proofs.Ytoljcfocgaonpaa.I
