/- Words and walks of this claim, of the text Bx38. -/
import Derived.Test.YtkcklnmbeinfkaaKjQW0
import Derived.Test.YtkcklnmbeinfkaaKjBx0
import Derived.Test.YtkcklnmbeinfkaaKjBx4
import Derived.Test.YtkcklnmbeinfkaaKjBx7
import Derived.Test.YtkcklnmbeinfkaaKjBx28
import Derived.Test.YtkcklnmbeinfkaaKjBx31
import Derived.Test.YtkcklnmbeinfkaaKjBx32
import Derived.Test.YtkcklnmbeinfkaaKjBx33
import Derived.Test.YtkcklnmbeinfkaaKjBx34
namespace Go.Proofs.Ytkcklnmbeinfkaa.B
open Go.RowKit Go.Proofs.YtkcklnmbeinfkaaW.PrintWords Go.Proofs.YtkcklnmbeinfkaaW.PrintLast Go.Proofs.YtkcklnmbeinfkaaW.PrintMore
attribute [local go_sem] max2_int min2_int max_two min_two max_three min_three max_four min_four
set_option linter.unusedVariables false
set_option linter.unusedSimpArgs false
mutual
def leadtraillaw11_ClashFound.j0 : Nat → Int → Int → List Int → Int → List Int → Int → Bool → Bool → Int → Int → Bool → Int → Int → Option (Bool)
 | 0, _, _, _, _, _, _, _, _, _, _, _, _, _ => none
 | k + 1, x1, x2, x11, x12, x13, x14, x48, x946000, x946001, x946002, x951000, x951001, x951002 => if x48 = true then (none) else (if x12 = 0 then (leadtraillaw11_ClashFound.j1 k x1 x2 x11 x13 (x14 != 0) x946000 x946001 x946002 x951000 x951001 x951002) else (leadtraillaw11_ClashFound.j1 k x1 x2 x11 x13 true x946000 x946001 x946002 x951000 x951001 x951002))
def leadtraillaw11_ClashFound.j1 : Nat → Int → Int → List Int → List Int → Bool → Bool → Int → Int → Bool → Int → Int → Option (Bool)
 | 0, _, _, _, _, _, _, _, _, _, _, _ => none
 | k + 1, x1, x2, x11, x13, x54, x946000, x946001, x946002, x951000, x951001, x951002 => if x54 = true then (some true) else (if (x11.length : Int) < (x13.length : Int) then ((strings_HasPrefix.f (strOfNums x13) (strOfNums x11)).bind fun t959 => (if t959 = true then (if x946000 = true then (none) else (if x1 = x2 then (some true) else (if (strOfNums x11).toList = (strOfNums x13).toList then (some (!x951000)) else (some true)))) else (if x1 = x2 then (some true) else (if (strOfNums x11).toList = (strOfNums x13).toList then (some (!x951000)) else (some true))))) else (if x1 = x2 then (some true) else (if (strOfNums x11).toList = (strOfNums x13).toList then (some (!x951000)) else (some true))))
end
def leadtraillaw11_ClashFound.f (k : Nat) (l0_0 : List (S50)) (a1 : Int) (a2 : Int) : Option (Bool) := (leadtraillaw11_fixed.f k).bind fun t940 => (if t940 = true then ((clash_Prefix.f k l0_0).bind fun bt941 => ((clash_Inject.f k l0_0).bind fun bt946 => ((code_Encode.f k l0_0 a1).bind fun bt951 => ((code_Encode.f k l0_0 a2).bind fun bt955 => (if bt941.2.2.2 = bt946.2.2.2 then (leadtraillaw11_ClashFound.j0 k a1 a2 bt951.1 bt951.2 bt955.1 bt955.2 ((bt941.2.2.2 == 84) != (bt951.2 == 84)) bt941.1 bt941.2.1 bt941.2.2.1 bt946.1 bt946.2.1 bt946.2.2.1) else (leadtraillaw11_ClashFound.j0 k a1 a2 bt951.1 bt951.2 bt955.1 bt955.2 true bt941.1 bt941.2.1 bt941.2.2.1 bt946.1 bt946.2.1 bt946.2.2.1)))))) else (none))
set_option maxHeartbeats 8000000 in
set_option maxRecDepth 100000 in
theorem leadtraillaw11_ClashFound.calls (k : Nat) (A0_0 : Option Addr) (c0_0 : Nat) (l0_0 : List (S50)) (a1 : Int) (a2 : Int) (r : Bool) (w : World) (hr0_0 : Kd.C k50 w A0_0 l0_0.length l0_0) (hc0_0 : l0_0.length ≤ c0_0) (h : leadtraillaw11_ClashFound.f k l0_0 a1 a2 = some r) :
 Calls Try.prog 18 #[.agg #[.slice A0_0 l0_0.length c0_0], .int .i64 a1, .int .i64 a2] w fun e w' => e = .returned (.bool r) ∧ Below w.heap.size w w' := by
 have hu24 := Try.underlying24; have hu59 := Try.underlying59; have HR0_0 := zk hr0_0; have HC0_0 := zk hc0_0; clear hr0_0 hc0_0; have HB := zk (Below.refl w.heap.size w); have H : ((leadtraillaw11_fixed.f k).bind fun t940 => (if t940 = true then ((clash_Prefix.f k l0_0).bind fun bt941 => ((clash_Inject.f k l0_0).bind fun bt946 => ((code_Encode.f k l0_0 a1).bind fun bt951 => ((code_Encode.f k l0_0 a2).bind fun bt955 => (if bt941.2.2.2 = bt946.2.2.2 then (leadtraillaw11_ClashFound.j0 k a1 a2 bt951.1 bt951.2 bt955.1 bt955.2 ((bt941.2.2.2 == 84) != (bt951.2 == 84)) bt941.1 bt941.2.1 bt941.2.2.1 bt946.1 bt946.2.1 bt946.2.2.1) else (leadtraillaw11_ClashFound.j0 k a1 a2 bt951.1 bt951.2 bt955.1 bt955.2 true bt941.1 bt941.2.1 bt941.2.2.1 bt946.1 bt946.2.1 bt946.2.2.1)))))) else (none))) = some r := h
 clear h; replace H := Option.bind_eq_some_iff.mp H; obtain ⟨t940, A40, H⟩ := H; replace H : (if t940 = true then ((clash_Prefix.f k l0_0).bind fun bt941 => ((clash_Inject.f k l0_0).bind fun bt946 => ((code_Encode.f k l0_0 a1).bind fun bt951 => ((code_Encode.f k l0_0 a2).bind fun bt955 => (if bt941.2.2.2 = bt946.2.2.2 then (leadtraillaw11_ClashFound.j0 k a1 a2 bt951.1 bt951.2 bt955.1 bt955.2 ((bt941.2.2.2 == 84) != (bt951.2 == 84)) bt941.1 bt941.2.1 bt941.2.2.1 bt946.1 bt946.2.1 bt946.2.2.1) else (leadtraillaw11_ClashFound.j0 k a1 a2 bt951.1 bt951.2 bt955.1 bt955.2 true bt941.1 bt941.2.1 bt941.2.2.1 bt946.1 bt946.2.1 bt946.2.2.1)))))) else (none)) = some r := H
 have A4 := zk A40; clear A40
 by_cases c5 : t940 = true
 ·subst c5
  have H1 : ((clash_Prefix.f k l0_0).bind fun bt941 => ((clash_Inject.f k l0_0).bind fun bt946 => ((code_Encode.f k l0_0 a1).bind fun bt951 => ((code_Encode.f k l0_0 a2).bind fun bt955 => (if bt941.2.2.2 = bt946.2.2.2 then (leadtraillaw11_ClashFound.j0 k a1 a2 bt951.1 bt951.2 bt955.1 bt955.2 ((bt941.2.2.2 == 84) != (bt951.2 == 84)) bt941.1 bt941.2.1 bt941.2.2.1 bt946.1 bt946.2.1 bt946.2.2.1) else (leadtraillaw11_ClashFound.j0 k a1 a2 bt951.1 bt951.2 bt955.1 bt955.2 true bt941.1 bt941.2.1 bt941.2.2.1 bt946.1 bt946.2.1 bt946.2.2.1)))))) = some r := by rw [if_pos rfl] at H; exact H
  clear H; have H := H1; clear H1; replace H := Option.bind_eq_some_iff.mp H; obtain ⟨⟨t941, t942, t943, t944⟩, A60, H⟩ := H; replace H : ((clash_Inject.f k l0_0).bind fun bt946 => ((code_Encode.f k l0_0 a1).bind fun bt951 => ((code_Encode.f k l0_0 a2).bind fun bt955 => (if t944 = bt946.2.2.2 then (leadtraillaw11_ClashFound.j0 k a1 a2 bt951.1 bt951.2 bt955.1 bt955.2 ((t944 == 84) != (bt951.2 == 84)) t941 t942 t943 bt946.1 bt946.2.1 bt946.2.2.1) else (leadtraillaw11_ClashFound.j0 k a1 a2 bt951.1 bt951.2 bt955.1 bt955.2 true t941 t942 t943 bt946.1 bt946.2.1 bt946.2.2.1))))) = some r := H
  have A6 := zk A60; clear A60; replace H := Option.bind_eq_some_iff.mp H; obtain ⟨⟨t946, t947, t948, t949⟩, A70, H⟩ := H; replace H : ((code_Encode.f k l0_0 a1).bind fun bt951 => ((code_Encode.f k l0_0 a2).bind fun bt955 => (if t944 = t949 then (leadtraillaw11_ClashFound.j0 k a1 a2 bt951.1 bt951.2 bt955.1 bt955.2 ((t944 == 84) != (bt951.2 == 84)) t941 t942 t943 t946 t947 t948) else (leadtraillaw11_ClashFound.j0 k a1 a2 bt951.1 bt951.2 bt955.1 bt955.2 true t941 t942 t943 t946 t947 t948)))) = some r := H
  have A7 := zk A70; clear A70; replace H := Option.bind_eq_some_iff.mp H; obtain ⟨⟨t951, t954⟩, A80, H⟩ := H; replace H : ((code_Encode.f k l0_0 a2).bind fun bt955 => (if t944 = t949 then (leadtraillaw11_ClashFound.j0 k a1 a2 t951 t954 bt955.1 bt955.2 ((t944 == 84) != (t954 == 84)) t941 t942 t943 t946 t947 t948) else (leadtraillaw11_ClashFound.j0 k a1 a2 t951 t954 bt955.1 bt955.2 true t941 t942 t943 t946 t947 t948))) = some r := H
  have A8 := zk A80; clear A80; replace H := Option.bind_eq_some_iff.mp H; obtain ⟨⟨t955, t958⟩, A90, H⟩ := H; replace H : (if t944 = t949 then (leadtraillaw11_ClashFound.j0 k a1 a2 t951 t954 t955 t958 ((t944 == 84) != (t954 == 84)) t941 t942 t943 t946 t947 t948) else (leadtraillaw11_ClashFound.j0 k a1 a2 t951 t954 t955 t958 true t941 t942 t943 t946 t947 t948)) = some r := H
  have A9 := zk A90; clear A90; have HC10 := zk H; clear H
  go_enter Try.func18, Try.ntmps18
  go_upto_region 7 with (first | ((with_reducible refine gate_dst (N := 3) rfl ?_); refine box_event ?hg (N := 3) ?hd (cs := #[.slice A0_0 l0_0.length c0_0]) (t := 24) ?hr ?_; (case hd => rfl); (case hg => rfl); (case hr => first | (go_simp; done) | (go_simp; rfl)); intro gb939 hg w11 hbox hb; have BK939 := zk (hbox); have GW939 := zk ((zg hg HB.out : w.heap.size ≤ gb939)); have GE939 := zk ((zg hg HB.out : w.heap.size ≤ gb939)); replace HB := zk (below_step (zU HB.out) hb);  clear hb hbox hg) | ((with_reducible refine gate_callee (f := 59) rfl ?_); refine goesL_ (some 15) rfl rfl Try.func59 zz rfl #[] rfl zM ?_; (with_reducible refine (leadtraillaw11_fixed.calls k  true _ A4.out rfl).mono ?_); rintro e w12 ⟨rfl, hb⟩; refine ⟨_, rfl, ?_⟩; replace BK939 := zk (zbb BK939.out hb); replace HB := zk (below_step (zU HB.out) hb);  (try clear hb); (try clear hb2); (try clear hk); (try clear hi); have hcz13_0 : w12.cell? ⟨gb939, 0, none⟩ = some (.slice A0_0 l0_0.length c0_0) := zh BK939.out 0; have hfz13_0 := blk_frozen BK939.out 0) | ((with_reducible refine gate_callee (f := 62) rfl ?_); refine goesL_ (some 19) rfl rfl Try.func62 zz rfl #[.agg #[.slice A0_0 l0_0.length c0_0]] rfl zM ?_; (with_reducible refine (clash_Prefix.calls k _ _ l0_0 t941 t942 t943 t944 _ ?side1 ?side2 A6.out).mono ?_); (case side1 => exact zc (Kd.C_below HR0_0.out HB.out)); (case side2 => exact HC0_0.out); rintro e w14 ⟨rfl, hb⟩; refine ⟨_, rfl, ?_⟩; replace BK939 := zk (zbb BK939.out hb); replace HB := zk (below_step (zU HB.out) hb);  (try clear hb); (try clear hb2); (try clear hk); (try clear hi)) | ((with_reducible refine gate_dst (N := 7) rfl ?_); refine box_event ?hg (N := 7) ?hd (cs := #[.bool false, .int .i64 0, .int .i64 0]) (t := 59) ?hr ?_; (case hd => rfl); (case hg => rfl); (case hr => first | (go_simp; done) | (go_simp; rfl)); intro gb945 hg w15 hbox hb; have BK945 := zk (hbox); have GW945 := zk ((zg hg HB.out : w.heap.size ≤ gb945)); have GE945 := zk ((zg hg HB.out : w.heap.size ≤ gb945)); replace HB := zk (below_step (zU HB.out) hb); have NB939_945 := zk ((zlt hg BK939.out : gb939 ≠ gb945)); have NB945_939 := zk ((zgt hg BK939.out : gb945 ≠ gb939)); replace BK939 := zk (zbb BK939.out hb);  clear hb hbox hg; have hnb16 := NB945_939.out; have hnc16 := NB939_945.out; have hcz17_0 : w15.cell? ⟨gb945, 0, none⟩ = some (.bool false) := zh BK945.out 0; have hcz17_1 : w15.cell? ⟨gb945, 1, none⟩ = some (.int .i64 0) := zh BK945.out 1; have hcz17_2 : w15.cell? ⟨gb945, 2, none⟩ = some (.int .i64 0) := zh BK945.out 2; have hfz17_0 := blk_frozen BK945.out 0; have hfz17_1 := blk_frozen BK945.out 1; have hfz17_2 := blk_frozen BK945.out 2; have hcz18_0 : w15.cell? ⟨gb939, 0, none⟩ = some (.slice A0_0 l0_0.length c0_0) := zh BK939.out 0; have hfz18_0 := blk_frozen BK939.out 0) | ((with_reducible refine gate_callee (f := 60) rfl ?_); refine goesL_ (some 24) rfl rfl Try.func60 zz rfl #[.agg #[.slice A0_0 l0_0.length c0_0]] rfl zM ?_; (with_reducible refine (clash_Inject.calls k _ _ l0_0 t946 t947 t948 t949 _ ?side1 ?side2 A7.out).mono ?_); (case side1 => exact Kd.C_below HR0_0.out (zU HB.out)); (case side2 => exact HC0_0.out); rintro e w19 ⟨rfl, hb⟩; refine ⟨_, rfl, ?_⟩; replace BK939 := zk (zbb BK939.out hb); replace BK945 := zk (blk_below (g := gb945) (o := .cells #[.bool t941, .int .i64 t942, .int .i64 t943] 59 (0, 0)) (by (with_reducible repeat (first | refine blk_drewN ?_ _ | refine blk_drew ?_ | refine blk_alloc ?_ _)); refine blk_put (cs := #[.bool t941, .int .i64 t942, .int .i64 0]) ?_ 2 _ rfl; (with_reducible repeat (first | refine blk_drewN ?_ _ | refine blk_drew ?_ | refine blk_alloc ?_ _)); refine blk_put (cs := #[.bool t941, .int .i64 0, .int .i64 0]) ?_ 1 _ rfl; (with_reducible repeat (first | refine blk_drewN ?_ _ | refine blk_drew ?_ | refine blk_alloc ?_ _)); refine blk_put (cs := #[.bool false, .int .i64 0, .int .i64 0]) ?_ 0 _ rfl; exact zb BK945.out) hb); replace HB := zk (below_step (zU HB.out) hb);  (try clear hb); (try clear hb2); (try clear hk); (try clear hi)) | ((with_reducible refine gate_dst (N := 9) rfl ?_); refine box_event ?hg (N := 9) ?hd (cs := #[.bool false, .int .i64 0, .int .i64 0]) (t := 59) ?hr ?_; (case hd => rfl); (case hg => rfl); (case hr => first | (go_simp; done) | (go_simp; rfl)); intro gb950 hg w20 hbox hb; have BK950 := zk (hbox); have GW950 := zk ((zg hg HB.out : w.heap.size ≤ gb950)); have GE950 := zk ((zg hg HB.out : w.heap.size ≤ gb950)); replace HB := zk (below_step (zU HB.out) hb); have NB939_950 := zk ((zlt hg BK939.out : gb939 ≠ gb950)); have NB950_939 := zk ((zgt hg BK939.out : gb950 ≠ gb939)); replace BK939 := zk (zbb BK939.out hb); have NB945_950 := zk ((zlt hg BK945.out : gb945 ≠ gb950)); have NB950_945 := zk ((zgt hg BK945.out : gb950 ≠ gb945)); replace BK945 := zk (zbb BK945.out hb);  clear hb hbox hg; have hnb21 := NB950_939.out; have hnc21 := NB939_950.out; have hnb22 := NB950_945.out; have hnc22 := NB945_950.out; have hcz23_0 : w20.cell? ⟨gb950, 0, none⟩ = some (.bool false) := zh BK950.out 0; have hcz23_1 : w20.cell? ⟨gb950, 1, none⟩ = some (.int .i64 0) := zh BK950.out 1; have hcz23_2 : w20.cell? ⟨gb950, 2, none⟩ = some (.int .i64 0) := zh BK950.out 2; have hfz23_0 := blk_frozen BK950.out 0; have hfz23_1 := blk_frozen BK950.out 1; have hfz23_2 := blk_frozen BK950.out 2; have hcz24_0 : w20.cell? ⟨gb939, 0, none⟩ = some (.slice A0_0 l0_0.length c0_0) := zh BK939.out 0; have hfz24_0 := blk_frozen BK939.out 0) | ((with_reducible refine gate_callee (f := 65) rfl ?_); refine goesL_ (some 30) rfl rfl Try.func65 zz rfl #[.agg #[.slice A0_0 l0_0.length c0_0], .int .i64 a1] rfl zM ?_; (with_reducible refine (code_Encode.calls k _ _ l0_0 a1 t951 t954 _ ?side1 ?side2 A8.out).mono ?_); (case side1 => exact Kd.C_below HR0_0.out (zU HB.out)); (case side2 => exact HC0_0.out); rintro e w25 ⟨v952, rfl, ho0, hb⟩; refine ⟨_, rfl, ?_⟩; have HO953 := zk (Kd.R_lower ho0 (below_size (zU HB.out))); replace BK939 := zk (zbb BK939.out hb); replace BK945 := zk (zbb BK945.out hb); replace BK950 := zk (blk_below (g := gb950) (o := .cells #[.bool t946, .int .i64 t947, .int .i64 t948] 59 (0, 0)) (by (with_reducible repeat (first | refine blk_drewN ?_ _ | refine blk_drew ?_ | refine blk_alloc ?_ _)); refine blk_put (cs := #[.bool t946, .int .i64 t947, .int .i64 0]) ?_ 2 _ rfl; (with_reducible repeat (first | refine blk_drewN ?_ _ | refine blk_drew ?_ | refine blk_alloc ?_ _)); refine blk_put (cs := #[.bool t946, .int .i64 0, .int .i64 0]) ?_ 1 _ rfl; (with_reducible repeat (first | refine blk_drewN ?_ _ | refine blk_drew ?_ | refine blk_alloc ?_ _)); refine blk_put (cs := #[.bool false, .int .i64 0, .int .i64 0]) ?_ 0 _ rfl; exact zb BK950.out) hb); replace HB := zk (below_step (zU HB.out) hb);  (try clear hb); (try clear hb2); (try clear hk); (try clear hi); (try clear ho0); have hcz26_0 : w25.cell? ⟨gb939, 0, none⟩ = some (.slice A0_0 l0_0.length c0_0) := zh BK939.out 0; have hfz26_0 := blk_frozen BK939.out 0) | ((with_reducible refine gate_callee (f := 65) rfl ?_); refine goesL_ (some 36) rfl rfl Try.func65 zz rfl #[.agg #[.slice A0_0 l0_0.length c0_0], .int .i64 a2] rfl zM ?_; (with_reducible refine (code_Encode.calls k _ _ l0_0 a2 t955 t958 _ ?side1 ?side2 A9.out).mono ?_); (case side1 => exact zc (Kd.C_below HR0_0.out HB.out)); (case side2 => exact HC0_0.out); rintro e w27 ⟨v956, rfl, ho0, hb⟩; refine ⟨_, rfl, ?_⟩; have HO957 := zk (Kd.R_lower (Kd.R_new' ho0 (Kd.R_lt (zr HO953.out))) (below_size (zU HB.out))); replace HO953 := zk (Kd.R_elder' (zr HO953.out) (Kd.R_base ho0) hb); replace BK939 := zk (zbb BK939.out hb); replace BK945 := zk (zbb BK945.out hb); replace BK950 := zk (zbb BK950.out hb); replace HB := zk (below_step (zU HB.out) hb);  (try clear hb); (try clear hb2); (try clear hk); (try clear hi); (try clear ho0)))
  (try simp only [Act.put, List.setIfInBounds_toArray, List.set_cons_zero, List.set_cons_succ])
  go_cut [48] (fun v48 wc => ∃ (kq : Nat) (x48_9 : Bool), v48 = .bool x48_9 ∧ Aside0 (leadtraillaw11_ClashFound.j0 kq a1 a2 t951 t954 t955 t958 x48_9 t941 t942 t943 t946 t947 t948 = some r) ∧ Aside0 (kq ≤ k) ∧ Aside0 (Kd.R (Kd.int .u8) 5 wc w.heap.size (fun k_ => some k_ ≠ (v956 : Value).ownBlock) v952 t951) ∧ Aside0 (Kd.R (Kd.int .u8) 5 wc w.heap.size (fun k_ => some k_ ≠ (v952 : Value).ownBlock) v956 t955) ∧ Aside0 (wc.heap[gb939]? = some (.cells #[(.slice A0_0 l0_0.length c0_0)] 24 (0, 0))) ∧ Aside0 (wc.heap[gb945]? = some (.cells #[.bool t941, .int .i64 t942, .int .i64 t943] 59 (0, 0))) ∧ Aside0 (wc.heap[gb950]? = some (.cells #[.bool t946, .int .i64 t947, .int .i64 t948] 59 (0, 0))) ∧ Aside0 (Below w.heap.size w wc))
  case first =>
   have H := HC10.out; clear HC10
   by_cases c28 : t944 = t949
   ·rw [if_pos c28] at H; have c28b0 : (t944 == t949) = true := beq_iff_eq.mpr c28
    have c28b1 : (t944 != t949) = false := bne_eq_false_iff_eq.mpr c28
    clear c28; (first | rw [c28b0] | (simp only [i64_w, i32_w]; rw [c28b0]) | skip)
    have H' := zk H
    clear H
    go_wp2
    go_meet
    case rel => exact ⟨_, (((t944 == 84) != (t954 == 84))), zR, H', ⟨by first | omega | exact Nat.le_refl _⟩, ⟨by (with_reducible repeat (first | apply zA | apply zB | apply zC)); exact Kd.R_mono HO953.out (fun _ hk => hk.2)⟩, ⟨by (with_reducible repeat (first | apply zA | apply zB | apply zC)); exact Kd.R_mono HO957.out (fun _ hk => hk.2)⟩, ⟨zb BK939.out⟩, ⟨zb BK945.out⟩, ⟨zb BK950.out⟩, ⟨zU HB.out⟩⟩
   ·rw [if_neg c28] at H; have c28b0 : (t944 == t949) = false := beq_eq_false_iff_ne.mpr c28
    have c28b1 : (t944 != t949) = true := bne_iff_ne.mpr c28
    (first | rw [c28b0] | (simp only [i64_w, i32_w]; rw [c28b0]) | skip)
    have H' := zk H
    clear H
    go_wp2
    go_meet
    case rel => exact ⟨_, (true), zR, H', ⟨by first | omega | exact Nat.le_refl _⟩, ⟨by (with_reducible repeat (first | apply zA | apply zB | apply zC)); exact Kd.R_mono HO953.out (fun _ hk => hk.2)⟩, ⟨by (with_reducible repeat (first | apply zA | apply zB | apply zC)); exact Kd.R_mono HO957.out (fun _ hk => hk.2)⟩, ⟨zb BK939.out⟩, ⟨zb BK945.out⟩, ⟨zb BK950.out⟩, ⟨zU HB.out⟩⟩
  case rest =>
   clear HC10; (try clear c1); (try clear c2); (try clear p2); (try clear c5); (try clear c6); (try clear c16); (try clear c18); (try clear c21); (try clear c22); (try clear c28); (try clear c28b0); (try clear c28b1); (try clear hcz13_0); (try clear hcz17_0); (try clear hcz17_1); (try clear hcz17_2); (try clear hcz18_0); (try clear hcz23_0); (try clear hcz23_1); (try clear hcz23_2); (try clear hcz24_0); (try clear hcz26_0); (try clear hfz13_0); (try clear hfz17_0); (try clear hfz17_1); (try clear hfz17_2); (try clear hfz18_0); (try clear hfz23_0); (try clear hfz23_1); (try clear hfz23_2); (try clear hfz24_0); (try clear hfz26_0); obtain ⟨kq, x48_9, rfl, HA, HJ9, HO_11, HO_13, BK939, BK945, BK950, HB⟩ := hcut; cases kq with
   | zero => exact absurd HA.out (by simp [leadtraillaw11_ClashFound.j0])
   | succ kj9 =>
    have H := HA.out; clear HA; simp only [leadtraillaw11_ClashFound.j0] at H
    by_cases c29 : x48_9 = true
    ·subst c29
     have H1 : (none) = some r := by rw [if_pos rfl] at H; exact H
     clear H; have H := H1; clear H1
     exact absurd H (by simp)
    ·replace c29 := Bool.eq_false_iff.mpr c29; subst c29
     have H1 : (if t954 = 0 then (leadtraillaw11_ClashFound.j1 kj9 a1 a2 t951 t955 (t958 != 0) t941 t942 t943 t946 t947 t948) else (leadtraillaw11_ClashFound.j1 kj9 a1 a2 t951 t955 true t941 t942 t943 t946 t947 t948)) = some r := by rw [if_neg (show ¬ (false = true) by decide)] at H; exact H
     clear H; have H := H1; clear H1; have HC30 := zk H; clear H
     go_upto_region 9 with (fail)
     go_cut [54] (fun v54 wc => ∃ (kq : Nat) (x54_29 : Bool), v54 = .bool x54_29 ∧ Aside0 (leadtraillaw11_ClashFound.j1 kq a1 a2 t951 t955 x54_29 t941 t942 t943 t946 t947 t948 = some r) ∧ Aside0 (kq ≤ kj9) ∧ Aside0 (Kd.R (Kd.int .u8) 5 wc w.heap.size (fun k_ => some k_ ≠ (v956 : Value).ownBlock) v952 t951) ∧ Aside0 (Kd.R (Kd.int .u8) 5 wc w.heap.size (fun k_ => some k_ ≠ (v952 : Value).ownBlock) v956 t955) ∧ Aside0 (wc.heap[gb939]? = some (.cells #[(.slice A0_0 l0_0.length c0_0)] 24 (0, 0))) ∧ Aside0 (wc.heap[gb945]? = some (.cells #[.bool t941, .int .i64 t942, .int .i64 t943] 59 (0, 0))) ∧ Aside0 (wc.heap[gb950]? = some (.cells #[.bool t946, .int .i64 t947, .int .i64 t948] 59 (0, 0))) ∧ Aside0 (Below w.heap.size w wc))
     case first =>
      have H := HC30.out; clear HC30
      by_cases c31 : t954 = 0
      ·rw [if_pos c31] at H; have c31b0 : (t954 == 0) = true := beq_iff_eq.mpr c31
       have c31b1 : (t954 != 0) = false := bne_eq_false_iff_eq.mpr c31
       clear c31; (first | rw [c31b0] | (simp only [i64_w, i32_w]; rw [c31b0]) | skip)
       have H' := zk H
       clear H
       go_wp2
       go_meet
       case rel => exact ⟨_, ((t958 != 0)), zR, H', ⟨by have := HJ9.out; first | omega | exact Nat.le_refl _⟩, ⟨by (with_reducible repeat (first | apply zA | apply zB | apply zC)); exact HO_11.out⟩, ⟨by (with_reducible repeat (first | apply zA | apply zB | apply zC)); exact HO_13.out⟩, ⟨zb BK939.out⟩, ⟨zb BK945.out⟩, ⟨zb BK950.out⟩, ⟨zU HB.out⟩⟩
      ·rw [if_neg c31] at H; have c31b0 : (t954 == 0) = false := beq_eq_false_iff_ne.mpr c31
       have c31b1 : (t954 != 0) = true := bne_iff_ne.mpr c31
       (first | rw [c31b0] | (simp only [i64_w, i32_w]; rw [c31b0]) | skip)
       have H' := zk H
       clear H
       go_wp2
       go_meet
       case rel => exact ⟨_, (true), zR, H', ⟨by have := HJ9.out; first | omega | exact Nat.le_refl _⟩, ⟨by (with_reducible repeat (first | apply zA | apply zB | apply zC)); exact HO_11.out⟩, ⟨by (with_reducible repeat (first | apply zA | apply zB | apply zC)); exact HO_13.out⟩, ⟨zb BK939.out⟩, ⟨zb BK945.out⟩, ⟨zb BK950.out⟩, ⟨zU HB.out⟩⟩
     case rest =>
      clear HC30; (try clear c1); (try clear c2); (try clear p2); (try clear c3); (try clear c5); (try clear c6); (try clear c16); (try clear c18); (try clear c21); (try clear c22); (try clear c28); (try clear c28b0); (try clear c28b1); (try clear c29); (try clear c31); (try clear c31b0); (try clear c31b1); (try clear hcz13_0); (try clear hcz17_0); (try clear hcz17_1); (try clear hcz17_2); (try clear hcz18_0); (try clear hcz23_0); (try clear hcz23_1); (try clear hcz23_2); (try clear hcz24_0); (try clear hcz26_0); (try clear hfz13_0); (try clear hfz17_0); (try clear hfz17_1); (try clear hfz17_2); (try clear hfz18_0); (try clear hfz23_0); (try clear hfz23_1); (try clear hfz23_2); (try clear hfz24_0); (try clear hfz26_0); (try clear p2); obtain ⟨kq, x54_29, rfl, HA, HJ29, HO_11, HO_13, BK939, BK945, BK950, HB⟩ := hcut; cases kq with
      | zero => exact absurd HA.out (by simp [leadtraillaw11_ClashFound.j1])
      | succ kj29 =>
       have H := HA.out; clear HA; simp only [leadtraillaw11_ClashFound.j1] at H
       by_cases c32 : x54_29 = true
       ·subst c32
        have H1 : (some true) = some r := by rw [if_pos rfl] at H; exact H
        clear H; have H := H1; clear H1; obtain rfl := Option.some.inj H
        go_wp2
        go_ret
        exact ⟨ze, zU HB.out⟩
       ·replace c32 := Bool.eq_false_iff.mpr c32; subst c32
        have H1 : (if (t951.length : Int) < (t955.length : Int) then ((strings_HasPrefix.f (strOfNums t955) (strOfNums t951)).bind fun t959 => (if t959 = true then (if t941 = true then (none) else (if a1 = a2 then (some true) else (if (strOfNums t951).toList = (strOfNums t955).toList then (some (!t946)) else (some true)))) else (if a1 = a2 then (some true) else (if (strOfNums t951).toList = (strOfNums t955).toList then (some (!t946)) else (some true))))) else (if a1 = a2 then (some true) else (if (strOfNums t951).toList = (strOfNums t955).toList then (some (!t946)) else (some true)))) = some r := by rw [if_neg (show ¬ (false = true) by decide)] at H; exact H
        clear H; have H := H1; clear H1
        by_cases c33 : (t951.length : Int) < (t955.length : Int)
        ·rw [if_pos c33] at H; have c33b0 : decide ((t951.length : Int) < (t955.length : Int)) = true := decide_eq_true c33
         have c33b1 : decide (t951.length < t955.length) = true := decide_eq_true (Int.ofNat_lt.mp c33)
         clear c33; replace H := Option.bind_eq_some_iff.mp H; obtain ⟨t959, A340, H⟩ := H; replace H : (if t959 = true then (if t941 = true then (none) else (if a1 = a2 then (some true) else (if (strOfNums t951).toList = (strOfNums t955).toList then (some (!t946)) else (some true)))) else (if a1 = a2 then (some true) else (if (strOfNums t951).toList = (strOfNums t955).toList then (some (!t946)) else (some true)))) = some r := H
         have A34 := zk A340; clear A340
         by_cases c35 : t959 = true
         ·subst c35
          have H1 : (if t941 = true then (none) else (if a1 = a2 then (some true) else (if (strOfNums t951).toList = (strOfNums t955).toList then (some (!t946)) else (some true)))) = some r := by rw [if_pos rfl] at H; exact H
          clear H; have H := H1; clear H1
          by_cases c36 : t941 = true
          ·subst c36
           have H1 : (none) = some r := by rw [if_pos rfl] at H; exact H
           clear H; have H := H1; clear H1
           exact absurd H (by simp)
          ·replace c36 := Bool.eq_false_iff.mpr c36; subst c36
           have H1 : (if a1 = a2 then (some true) else (if (strOfNums t951).toList = (strOfNums t955).toList then (some (!t946)) else (some true))) = some r := by rw [if_neg (show ¬ (false = true) by decide)] at H; exact H
           clear H; have H := H1; clear H1
           by_cases c37 : a1 = a2
           ·rw [if_pos c37] at H; have c37b0 : (a1 == a2) = true := beq_iff_eq.mpr c37
            have c37b1 : (a1 != a2) = false := bne_eq_false_iff_eq.mpr c37
            clear c37; obtain rfl := Option.some.inj H; obtain ⟨Ao38, co38, eo38⟩ := Kd.R_slice HO_11.out; subst eo38; obtain ⟨Ao39, co39, eo39⟩ := Kd.R_slice HO_13.out; subst eo39; have hcv40 := own_string (P := Try.prog) Try.underlying52 Try.underlying5 Try.underlying9 (Kd.own_of_R HO_13.out); have hcv41 := own_string (P := Try.prog) Try.underlying52 Try.underlying5 Try.underlying9 (Kd.own_of_R HO_11.out)
            go_wp2_with (first | (go_at_call 64; (with_reducible refine (strings_HasPrefix.calls (strOfNums t955) (strOfNums t951) true _ A34.out).mono ?_); rintro e w' ⟨rfl, ⟨nd, rfl⟩⟩; have hnb42 := NB945_939.out; have hnc42 := NB939_945.out; have hnb43 := NB945_950.out; have hnc43 := NB950_945.out; have hcz44_0 : wc.cell? ⟨gb945, 0, none⟩ = some (.bool false) := zh BK945.out 0; have hcz44_1 : wc.cell? ⟨gb945, 1, none⟩ = some (.int .i64 t942) := zh BK945.out 1; have hcz44_2 : wc.cell? ⟨gb945, 2, none⟩ = some (.int .i64 t943) := zh BK945.out 2; have hfz44_0 := blk_frozen BK945.out 0; have hfz44_1 := blk_frozen BK945.out 1; have hfz44_2 := blk_frozen BK945.out 2))
            go_ret
            exact ⟨ze, zU HB.out⟩
           ·rw [if_neg c37] at H; have c37b0 : (a1 == a2) = false := beq_eq_false_iff_ne.mpr c37
            have c37b1 : (a1 != a2) = true := bne_iff_ne.mpr c37
            by_cases c45 : (strOfNums t951).toList = (strOfNums t955).toList
            ·rw [if_pos c45] at H; have c45b0 : ((strOfNums t951).toList == (strOfNums t955).toList) = true := beq_iff_eq.mpr c45
             have c45b1 : ((strOfNums t951).toList != (strOfNums t955).toList) = false := bne_eq_false_iff_eq.mpr c45
             clear c45; obtain rfl := Option.some.inj H; obtain ⟨Ao46, co46, eo46⟩ := Kd.R_slice HO_11.out; subst eo46; obtain ⟨Ao47, co47, eo47⟩ := Kd.R_slice HO_13.out; subst eo47; have hcv48 := own_string (P := Try.prog) Try.underlying52 Try.underlying5 Try.underlying9 (Kd.own_of_R HO_13.out); have hcv49 := own_string (P := Try.prog) Try.underlying52 Try.underlying5 Try.underlying9 (Kd.own_of_R HO_11.out)
             go_wp2_with (first | (go_at_call 64; (with_reducible refine (strings_HasPrefix.calls (strOfNums t955) (strOfNums t951) true _ A34.out).mono ?_); rintro e w' ⟨rfl, ⟨nd, rfl⟩⟩; have hnb50 := NB945_939.out; have hnc50 := NB939_945.out; have hnb51 := NB945_950.out; have hnc51 := NB950_945.out; have hcz52_0 : wc.cell? ⟨gb945, 0, none⟩ = some (.bool false) := zh BK945.out 0; have hcz52_1 : wc.cell? ⟨gb945, 1, none⟩ = some (.int .i64 t942) := zh BK945.out 1; have hcz52_2 : wc.cell? ⟨gb945, 2, none⟩ = some (.int .i64 t943) := zh BK945.out 2; have hfz52_0 := blk_frozen BK945.out 0; have hfz52_1 := blk_frozen BK945.out 1; have hfz52_2 := blk_frozen BK945.out 2; have hcv53 := own_string (P := Try.prog) Try.underlying52 Try.underlying5 Try.underlying9 (Kd.own_of_R (Kd.R_drewN HO_11.out nd)); have hcv54 := own_string (P := Try.prog) Try.underlying52 Try.underlying5 Try.underlying9 (Kd.own_of_R (Kd.R_drewN HO_13.out nd)); have hnb55 := NB950_939.out; have hnc55 := NB939_950.out; have hcz56_0 : wc.cell? ⟨gb950, 0, none⟩ = some (.bool t946) := zh BK950.out 0; have hcz56_1 : wc.cell? ⟨gb950, 1, none⟩ = some (.int .i64 t947) := zh BK950.out 1; have hcz56_2 : wc.cell? ⟨gb950, 2, none⟩ = some (.int .i64 t948) := zh BK950.out 2; have hfz56_0 := blk_frozen BK950.out 0; have hfz56_1 := blk_frozen BK950.out 1; have hfz56_2 := blk_frozen BK950.out 2))
             go_ret
             exact ⟨ze, zU HB.out⟩
            ·rw [if_neg c45] at H; have c45b0 : ((strOfNums t951).toList == (strOfNums t955).toList) = false := beq_eq_false_iff_ne.mpr c45
             have c45b1 : ((strOfNums t951).toList != (strOfNums t955).toList) = true := bne_iff_ne.mpr c45
             obtain rfl := Option.some.inj H; obtain ⟨Ao57, co57, eo57⟩ := Kd.R_slice HO_11.out; subst eo57; obtain ⟨Ao58, co58, eo58⟩ := Kd.R_slice HO_13.out; subst eo58; have hcv59 := own_string (P := Try.prog) Try.underlying52 Try.underlying5 Try.underlying9 (Kd.own_of_R HO_13.out); have hcv60 := own_string (P := Try.prog) Try.underlying52 Try.underlying5 Try.underlying9 (Kd.own_of_R HO_11.out)
             go_wp2_with (first | (go_at_call 64; (with_reducible refine (strings_HasPrefix.calls (strOfNums t955) (strOfNums t951) true _ A34.out).mono ?_); rintro e w' ⟨rfl, ⟨nd, rfl⟩⟩; have hnb61 := NB945_939.out; have hnc61 := NB939_945.out; have hnb62 := NB945_950.out; have hnc62 := NB950_945.out; have hcz63_0 : wc.cell? ⟨gb945, 0, none⟩ = some (.bool false) := zh BK945.out 0; have hcz63_1 : wc.cell? ⟨gb945, 1, none⟩ = some (.int .i64 t942) := zh BK945.out 1; have hcz63_2 : wc.cell? ⟨gb945, 2, none⟩ = some (.int .i64 t943) := zh BK945.out 2; have hfz63_0 := blk_frozen BK945.out 0; have hfz63_1 := blk_frozen BK945.out 1; have hfz63_2 := blk_frozen BK945.out 2; have hcv64 := own_string (P := Try.prog) Try.underlying52 Try.underlying5 Try.underlying9 (Kd.own_of_R (Kd.R_drewN HO_11.out nd)); have hcv65 := own_string (P := Try.prog) Try.underlying52 Try.underlying5 Try.underlying9 (Kd.own_of_R (Kd.R_drewN HO_13.out nd))))
             go_ret
             exact ⟨ze, zU HB.out⟩
         ·replace c35 := Bool.eq_false_iff.mpr c35; subst c35
          have H1 : (if a1 = a2 then (some true) else (if (strOfNums t951).toList = (strOfNums t955).toList then (some (!t946)) else (some true))) = some r := by rw [if_neg (show ¬ (false = true) by decide)] at H; exact H
          clear H; have H := H1; clear H1
          by_cases c66 : a1 = a2
          ·rw [if_pos c66] at H; have c66b0 : (a1 == a2) = true := beq_iff_eq.mpr c66
           have c66b1 : (a1 != a2) = false := bne_eq_false_iff_eq.mpr c66
           clear c66; obtain rfl := Option.some.inj H; obtain ⟨Ao67, co67, eo67⟩ := Kd.R_slice HO_11.out; subst eo67; obtain ⟨Ao68, co68, eo68⟩ := Kd.R_slice HO_13.out; subst eo68; have hcv69 := own_string (P := Try.prog) Try.underlying52 Try.underlying5 Try.underlying9 (Kd.own_of_R HO_13.out); have hcv70 := own_string (P := Try.prog) Try.underlying52 Try.underlying5 Try.underlying9 (Kd.own_of_R HO_11.out)
           go_wp2_with (first | (go_at_call 64; (with_reducible refine (strings_HasPrefix.calls (strOfNums t955) (strOfNums t951) false _ A34.out).mono ?_); rintro e w' ⟨rfl, ⟨nd, rfl⟩⟩))
           go_ret
           exact ⟨ze, zU HB.out⟩
          ·rw [if_neg c66] at H; have c66b0 : (a1 == a2) = false := beq_eq_false_iff_ne.mpr c66
           have c66b1 : (a1 != a2) = true := bne_iff_ne.mpr c66
           by_cases c71 : (strOfNums t951).toList = (strOfNums t955).toList
           ·rw [if_pos c71] at H; have c71b0 : ((strOfNums t951).toList == (strOfNums t955).toList) = true := beq_iff_eq.mpr c71
            have c71b1 : ((strOfNums t951).toList != (strOfNums t955).toList) = false := bne_eq_false_iff_eq.mpr c71
            clear c71; obtain rfl := Option.some.inj H; obtain ⟨Ao72, co72, eo72⟩ := Kd.R_slice HO_11.out; subst eo72; obtain ⟨Ao73, co73, eo73⟩ := Kd.R_slice HO_13.out; subst eo73; have hcv74 := own_string (P := Try.prog) Try.underlying52 Try.underlying5 Try.underlying9 (Kd.own_of_R HO_13.out); have hcv75 := own_string (P := Try.prog) Try.underlying52 Try.underlying5 Try.underlying9 (Kd.own_of_R HO_11.out)
            go_wp2_with (first | (go_at_call 64; (with_reducible refine (strings_HasPrefix.calls (strOfNums t955) (strOfNums t951) false _ A34.out).mono ?_); rintro e w' ⟨rfl, ⟨nd, rfl⟩⟩; have hcv76 := own_string (P := Try.prog) Try.underlying52 Try.underlying5 Try.underlying9 (Kd.own_of_R (Kd.R_drewN HO_11.out nd)); have hcv77 := own_string (P := Try.prog) Try.underlying52 Try.underlying5 Try.underlying9 (Kd.own_of_R (Kd.R_drewN HO_13.out nd)); have hnb78 := NB950_939.out; have hnc78 := NB939_950.out; have hnb79 := NB950_945.out; have hnc79 := NB945_950.out; have hcz80_0 : wc.cell? ⟨gb950, 0, none⟩ = some (.bool t946) := zh BK950.out 0; have hcz80_1 : wc.cell? ⟨gb950, 1, none⟩ = some (.int .i64 t947) := zh BK950.out 1; have hcz80_2 : wc.cell? ⟨gb950, 2, none⟩ = some (.int .i64 t948) := zh BK950.out 2; have hfz80_0 := blk_frozen BK950.out 0; have hfz80_1 := blk_frozen BK950.out 1; have hfz80_2 := blk_frozen BK950.out 2))
            go_ret
            exact ⟨ze, zU HB.out⟩
           ·rw [if_neg c71] at H; have c71b0 : ((strOfNums t951).toList == (strOfNums t955).toList) = false := beq_eq_false_iff_ne.mpr c71
            have c71b1 : ((strOfNums t951).toList != (strOfNums t955).toList) = true := bne_iff_ne.mpr c71
            obtain rfl := Option.some.inj H; obtain ⟨Ao81, co81, eo81⟩ := Kd.R_slice HO_11.out; subst eo81; obtain ⟨Ao82, co82, eo82⟩ := Kd.R_slice HO_13.out; subst eo82; have hcv83 := own_string (P := Try.prog) Try.underlying52 Try.underlying5 Try.underlying9 (Kd.own_of_R HO_13.out); have hcv84 := own_string (P := Try.prog) Try.underlying52 Try.underlying5 Try.underlying9 (Kd.own_of_R HO_11.out)
            go_wp2_with (first | (go_at_call 64; (with_reducible refine (strings_HasPrefix.calls (strOfNums t955) (strOfNums t951) false _ A34.out).mono ?_); rintro e w' ⟨rfl, ⟨nd, rfl⟩⟩; have hcv85 := own_string (P := Try.prog) Try.underlying52 Try.underlying5 Try.underlying9 (Kd.own_of_R (Kd.R_drewN HO_11.out nd)); have hcv86 := own_string (P := Try.prog) Try.underlying52 Try.underlying5 Try.underlying9 (Kd.own_of_R (Kd.R_drewN HO_13.out nd))))
            go_ret
            exact ⟨ze, zU HB.out⟩
        ·rw [if_neg c33] at H; have c33b0 : decide ((t951.length : Int) < (t955.length : Int)) = false := decide_eq_false c33
         have c33b1 : decide (t951.length < t955.length) = false := decide_eq_false (fun h => c33 (Int.ofNat_lt.mpr h))
         clear c33
         by_cases c87 : a1 = a2
         ·rw [if_pos c87] at H; have c87b0 : (a1 == a2) = true := beq_iff_eq.mpr c87
          have c87b1 : (a1 != a2) = false := bne_eq_false_iff_eq.mpr c87
          clear c87; obtain rfl := Option.some.inj H; obtain ⟨Ao88, co88, eo88⟩ := Kd.R_slice HO_11.out; subst eo88; obtain ⟨Ao89, co89, eo89⟩ := Kd.R_slice HO_13.out; subst eo89
          go_wp2
          go_ret
          exact ⟨ze, zU HB.out⟩
         ·rw [if_neg c87] at H; have c87b0 : (a1 == a2) = false := beq_eq_false_iff_ne.mpr c87
          have c87b1 : (a1 != a2) = true := bne_iff_ne.mpr c87
          by_cases c90 : (strOfNums t951).toList = (strOfNums t955).toList
          ·rw [if_pos c90] at H; have c90b0 : ((strOfNums t951).toList == (strOfNums t955).toList) = true := beq_iff_eq.mpr c90
           have c90b1 : ((strOfNums t951).toList != (strOfNums t955).toList) = false := bne_eq_false_iff_eq.mpr c90
           clear c90; obtain rfl := Option.some.inj H; obtain ⟨Ao91, co91, eo91⟩ := Kd.R_slice HO_11.out; subst eo91; obtain ⟨Ao92, co92, eo92⟩ := Kd.R_slice HO_13.out; subst eo92; have hcv93 := own_string (P := Try.prog) Try.underlying52 Try.underlying5 Try.underlying9 (Kd.own_of_R HO_11.out); have hcv94 := own_string (P := Try.prog) Try.underlying52 Try.underlying5 Try.underlying9 (Kd.own_of_R HO_13.out); have hnb95 := NB950_939.out; have hnc95 := NB939_950.out; have hnb96 := NB950_945.out; have hnc96 := NB945_950.out; have hcz97_0 : wc.cell? ⟨gb950, 0, none⟩ = some (.bool t946) := zh BK950.out 0
           have hcz97_1 : wc.cell? ⟨gb950, 1, none⟩ = some (.int .i64 t947) := zh BK950.out 1
           have hcz97_2 : wc.cell? ⟨gb950, 2, none⟩ = some (.int .i64 t948) := zh BK950.out 2
           have hfz97_0 := blk_frozen BK950.out 0; have hfz97_1 := blk_frozen BK950.out 1; have hfz97_2 := blk_frozen BK950.out 2
           go_wp2
           go_ret
           exact ⟨ze, zU HB.out⟩
          ·rw [if_neg c90] at H; have c90b0 : ((strOfNums t951).toList == (strOfNums t955).toList) = false := beq_eq_false_iff_ne.mpr c90
           have c90b1 : ((strOfNums t951).toList != (strOfNums t955).toList) = true := bne_iff_ne.mpr c90
           obtain rfl := Option.some.inj H; obtain ⟨Ao98, co98, eo98⟩ := Kd.R_slice HO_11.out; subst eo98; obtain ⟨Ao99, co99, eo99⟩ := Kd.R_slice HO_13.out; subst eo99; have hcv100 := own_string (P := Try.prog) Try.underlying52 Try.underlying5 Try.underlying9 (Kd.own_of_R HO_11.out); have hcv101 := own_string (P := Try.prog) Try.underlying52 Try.underlying5 Try.underlying9 (Kd.own_of_R HO_13.out)
           go_wp2
           go_ret
           exact ⟨ze, zU HB.out⟩
 ·replace c5 := Bool.eq_false_iff.mpr c5; subst c5
  have H1 : (none) = some r := by rw [if_neg (show ¬ (false = true) by decide)] at H; exact H
  clear H; have H := H1; clear H1
  exact absurd H (by simp)
end Go.Proofs.Ytkcklnmbeinfkaa.B
