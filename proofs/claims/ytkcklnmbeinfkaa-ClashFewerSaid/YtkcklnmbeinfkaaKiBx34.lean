/- Words and walks of this claim, of the text Bx34. -/
import Derived.Test.YtkcklnmbeinfkaaKiQW0
import Derived.Test.YtkcklnmbeinfkaaKiBx0
import Derived.Test.YtkcklnmbeinfkaaKiBx22
import Derived.Test.YtkcklnmbeinfkaaKiBx23
import Derived.Test.YtkcklnmbeinfkaaKiBx8
import Derived.Test.YtkcklnmbeinfkaaKiBx9
import Derived.Test.YtkcklnmbeinfkaaKiBx15
import Derived.Test.YtkcklnmbeinfkaaKiBx13
import Derived.Test.YtkcklnmbeinfkaaKiBx12
import Derived.Test.YtkcklnmbeinfkaaKiBx31
import Derived.Test.YtkcklnmbeinfkaaKiBx32
namespace Go.Proofs.Ytkcklnmbeinfkaa.B
open Go.RowKit Go.Proofs.YtkcklnmbeinfkaaW.PrintWords Go.Proofs.YtkcklnmbeinfkaaW.PrintLast Go.Proofs.YtkcklnmbeinfkaaW.PrintMore
attribute [local go_sem] max2_int min2_int max_two min_two max_three min_three max_four min_four
set_option linter.unusedVariables false
set_option linter.unusedSimpArgs false
def clash_Inject.f (k : Nat) (l0_0 : List (S50)) : Option (Bool × Int × Int × Int) := (clash_searchI.f k l0_0).bind fun bt866 => (some (bt866.1, bt866.2.1, bt866.2.2.1, bt866.2.2.2))
set_option maxHeartbeats 8000000 in
set_option maxRecDepth 100000 in
theorem clash_Inject.calls (k : Nat) (A0_0 : Option Addr) (c0_0 : Nat) (l0_0 : List (S50)) (r1 : Bool) (r2 : Int) (r3 : Int) (r4 : Int) (w : World) (hr0_0 : Kd.C k50 w A0_0 l0_0.length l0_0) (hc0_0 : l0_0.length ≤ c0_0) (h : clash_Inject.f k l0_0 = some (r1, r2, r3, r4)) :
 Calls Try.prog 60 #[.agg #[.slice A0_0 l0_0.length c0_0]] w fun e w' => e = .returned (.tuple #[.agg #[.bool r1, .int .i64 r2, .int .i64 r3], .int .i64 r4]) ∧ Below w.heap.size w w' := by
 have hu24 := Try.underlying24; have hu59 := Try.underlying59; have HR0_0 := zk hr0_0; have HC0_0 := zk hc0_0; clear hr0_0 hc0_0; have HB := zk (Below.refl w.heap.size w); have H : ((clash_searchI.f k l0_0).bind fun bt866 => (some (bt866.1, bt866.2.1, bt866.2.2.1, bt866.2.2.2))) = some (r1, r2, r3, r4) := h
 clear h; replace H := Option.bind_eq_some_iff.mp H; obtain ⟨⟨t866, t867, t868, t869⟩, A20, H⟩ := H; replace H : (some (t866, t867, t868, t869)) = some (r1, r2, r3, r4) := H
 have A2 := zk A20; clear A20; simp only [Option.some.injEq, Prod.mk.injEq] at H; obtain ⟨rfl, rfl, rfl, rfl⟩ := H
 go_enter Try.func60, Try.ntmps60
 go_wp2_with (first | ((with_reducible refine gate_dst (N := 1) rfl ?_); refine box_event ?hg (N := 1) ?hd (cs := #[.slice A0_0 l0_0.length c0_0]) (t := 24) ?hr ?_; (case hd => rfl); (case hg => rfl); (case hr => first | (go_simp; done) | (go_simp; rfl)); intro gb864 hg w3 hbox hb; have BK864 := zk (hbox); have GW864 := zk ((zg hg HB.out : w.heap.size ≤ gb864)); have GE864 := zk ((zg hg HB.out : w.heap.size ≤ gb864)); replace HB := zk (below_step (zU HB.out) hb);  clear hb hbox hg) | ((with_reducible refine gate_dst (N := 2) rfl ?_); refine box_event ?hg (N := 2) ?hd (cs := #[.bool false, .int .i64 0, .int .i64 0]) (t := 59) ?hr ?_; (case hd => rfl); (case hg => rfl); (case hr => first | (go_simp; done) | (go_simp; rfl)); intro gb865 hg w4 hbox hb; have BK865 := zk (hbox); have GW865 := zk ((zg hg HB.out : w.heap.size ≤ gb865)); have GE865 := zk ((zg hg HB.out : w.heap.size ≤ gb865)); replace HB := zk (below_step (zU HB.out) hb); have NB864_865 := zk ((zlt hg BK864.out : gb864 ≠ gb865)); have NB865_864 := zk ((zgt hg BK864.out : gb865 ≠ gb864)); replace BK864 := zk (zbb BK864.out hb);  clear hb hbox hg; have hnb5 := NB864_865.out; have hnc5 := NB865_864.out; have hcz6_0 : w4.cell? ⟨gb864, 0, none⟩ = some (.slice A0_0 l0_0.length c0_0) := zh BK864.out 0; have hfz6_0 := blk_frozen BK864.out 0) | ((with_reducible refine gate_callee (f := 107) rfl ?_); refine goesL_ (some 6) rfl rfl Try.func107 zz rfl #[.agg #[.slice A0_0 l0_0.length c0_0], .func (.func 108) #[] #[.pointer (some ⟨gb864, 0, none⟩)]] rfl zM ?_; (with_reducible refine (clash_searchI.calls k _ _ l0_0 t866 t867 t868 t869 _ ?side1 ?side2 A2.out gb864 ?side3).mono ?_); (case side3 => exact zb BK864.out); (case side1 => exact zc (Kd.C_below HR0_0.out HB.out)); (case side2 => exact HC0_0.out); rintro e w7 ⟨rfl, hb⟩; refine ⟨_, rfl, ?_⟩; replace BK864 := zk (zbb BK864.out hb); replace BK865 := zk (zbb BK865.out hb); replace HB := zk (below_step (zU HB.out) hb);  (try clear hb); (try clear hb2); (try clear hk); (try clear hi); have hcz8_0 : w7.cell? ⟨gb865, 0, none⟩ = some (.bool false) := zh BK865.out 0; have hcz8_1 : w7.cell? ⟨gb865, 1, none⟩ = some (.int .i64 0) := zh BK865.out 1; have hcz8_2 : w7.cell? ⟨gb865, 2, none⟩ = some (.int .i64 0) := zh BK865.out 2; have hfz8_0 := blk_frozen BK865.out 0; have hfz8_1 := blk_frozen BK865.out 1; have hfz8_2 := blk_frozen BK865.out 2))
 refine bodyPost_ret (results_ct rfl _ _ gb865 59 #[.bool t866, .int .i64 t867, .int .i64 t868] (0, 0) _ rfl (by (with_reducible repeat (first | refine blk_drewN ?_ _ | refine blk_drew ?_ | refine blk_alloc ?_ _)); refine blk_put (cs := #[.bool t866, .int .i64 t867, .int .i64 0]) ?_ 2 _ rfl; (with_reducible repeat (first | refine blk_drewN ?_ _ | refine blk_drew ?_ | refine blk_alloc ?_ _)); refine blk_put (cs := #[.bool t866, .int .i64 0, .int .i64 0]) ?_ 1 _ rfl; (with_reducible repeat (first | refine blk_drewN ?_ _ | refine blk_drew ?_ | refine blk_alloc ?_ _)); refine blk_put (cs := #[.bool false, .int .i64 0, .int .i64 0]) ?_ 0 _ rfl; exact zb BK865.out) Try.underlying59 rfl zz) rfl ?_
 exact ⟨ze, zU HB.out⟩
end Go.Proofs.Ytkcklnmbeinfkaa.B
