/- A part of the claim FnExactUnitOk: texts of this session and texts that its program printed out of the translation, joined. -/
import Derived.Test.YtedodaifpekahaaCFnExactUnitOk21
import Derived.Test.YtedodaifpekahaaCFnExactUnitOk0
import Derived.Test.YtedodaifpekahaaCFnExactUnitOk1
import Derived.Test.YtedodaifpekahaaCFnExactUnitOk2
import Derived.Test.YtedodaifpekahaaCFnExactUnitOk3
import Derived.Test.YtedodaifpekahaaCFnExactUnitOk4
import Derived.Test.YtedodaifpekahaaCFnExactUnitOk5
import Derived.Test.YtedodaifpekahaaCFnExactUnitOk6
import Derived.Test.YtedodaifpekahaaCFnExactUnitOk7
import Derived.Test.YtedodaifpekahaaCFnExactUnitOk8
import Derived.Test.YtedodaifpekahaaCFnExactUnitOk9
import Derived.Test.YtedodaifpekahaaCFnExactUnitOk10
import Derived.Test.YtedodaifpekahaaCFnExactUnitOk11
import Derived.Test.YtedodaifpekahaaCFnExactUnitOk12
import Derived.Test.YtedodaifpekahaaCFnExactUnitOk13
import Derived.Test.YtedodaifpekahaaCFnExactUnitOk14
import Derived.Test.YtedodaifpekahaaCFnExactUnitOk15
import Derived.Test.YtedodaifpekahaaCFnExactUnitOk16
import Derived.Test.YtedodaifpekahaaCFnExactUnitOk17
import Derived.Test.YtedodaifpekahaaCFnExactUnitOk18
import Derived.Test.YtedodaifpekahaaCFnExactUnitOk19
import Derived.Test.YtedodaifpekahaaCFnExactUnitOk20
import Derived.Test.YtedodaifpekahaaCFnExactUnitOk22
import Derived.Test.YtedodaifpekahaaCFnExactUnitOk23
import Derived.Test.YtedodaifpekahaaCFnExactUnitOk24
section

namespace Go.Proofs.Ytedodaifpekahaa.P
open Go.RowKit Go.Proofs.YtedodaifpekahaaW.PrintWords Go.Proofs.YtedodaifpekahaaW.PrintLast Go.Proofs.YtedodaifpekahaaW.PrintMore
attribute [local go_sem] max2_int min2_int max_two min_two max_three min_three max_four min_four
set_option linter.unusedVariables false
set_option linter.unusedSimpArgs false
set_option maxHeartbeats 8000000 in
set_option maxRecDepth 100000 in
theorem spec_l3Same.calls (k : Nat) (a0_0 : Int) (a0_1 : Int) (A0_2 : Option Addr) (c0_2 : Nat) (l0_2 : List Int) (a0_3 : Int) (a0_4 : Int) (A0_5 : Option Addr) (c0_5 : Nat) (l0_5 : List (S67)) (A0_6 : Option Addr) (c0_6 : Nat) (l0_6 : List (S70)) (A0_7 : Option Addr) (c0_7 : Nat) (l0_7 : List (S73)) (a1_0 : Int) (a1_1 : Int) (A1_2 : Option Addr) (c1_2 : Nat) (l1_2 : List Int) (a1_3 : Int) (a1_4 : Int) (A1_5 : Option Addr) (c1_5 : Nat) (l1_5 : List (S67)) (A1_6 : Option Addr) (c1_6 : Nat) (l1_6 : List (S70)) (A1_7 : Option Addr) (c1_7 : Nat) (l1_7 : List (S73)) (r : Bool) (w : World) (hr0_2 : Kd.C (Kd.int .i64) w A0_2 l0_2.length l0_2) (hc0_2 : l0_2.length ≤ c0_2) (hr0_5 : Kd.C k67 w A0_5 l0_5.length l0_5) (hc0_5 : l0_5.length ≤ c0_5) (hr0_6 : Kd.C k70 w A0_6 l0_6.length l0_6) (hc0_6 : l0_6.length ≤ c0_6) (hr0_7 : Kd.C k73 w A0_7 l0_7.length l0_7) (hc0_7 : l0_7.length ≤ c0_7) (hr1_2 : Kd.C (Kd.int .i64) w A1_2 l1_2.length l1_2) (hc1_2 : l1_2.length ≤ c1_2) (hr1_5 : Kd.C k67 w A1_5 l1_5.length l1_5) (hc1_5 : l1_5.length ≤ c1_5) (hr1_6 : Kd.C k70 w A1_6 l1_6.length l1_6) (hc1_6 : l1_6.length ≤ c1_6) (hr1_7 : Kd.C k73 w A1_7 l1_7.length l1_7) (hc1_7 : l1_7.length ≤ c1_7) (h : spec_l3Same.f k a0_0 a0_1 l0_2 a0_3 a0_4 l0_5 l0_6 l0_7 a1_0 a1_1 l1_2 a1_3 a1_4 l1_5 l1_6 l1_7 = some r) :
    Calls Try.prog 39 #[.agg #[.int .i64 a0_0, .int .i64 a0_1, .slice A0_2 l0_2.length c0_2, .int .i64 a0_3, .int .i64 a0_4, .slice A0_5 l0_5.length c0_5, .slice A0_6 l0_6.length c0_6, .slice A0_7 l0_7.length c0_7], .agg #[.int .i64 a1_0, .int .i64 a1_1, .slice A1_2 l1_2.length c1_2, .int .i64 a1_3, .int .i64 a1_4, .slice A1_5 l1_5.length c1_5, .slice A1_6 l1_6.length c1_6, .slice A1_7 l1_7.length c1_7]] w fun e w' => e = .returned (.bool r) ∧ Below w.heap.size w w' := by
  have hu46 := Try.underlying46
  have HR0_2 := Aside0.mk hr0_2
  have HC0_2 := Aside0.mk hc0_2
  clear hr0_2 hc0_2
  have HR0_5 := Aside0.mk hr0_5
  have HC0_5 := Aside0.mk hc0_5
  clear hr0_5 hc0_5
  have HR0_6 := Aside0.mk hr0_6
  have HC0_6 := Aside0.mk hc0_6
  clear hr0_6 hc0_6
  have HR0_7 := Aside0.mk hr0_7
  have HC0_7 := Aside0.mk hc0_7
  clear hr0_7 hc0_7
  have HR1_2 := Aside0.mk hr1_2
  have HC1_2 := Aside0.mk hc1_2
  clear hr1_2 hc1_2
  have HR1_5 := Aside0.mk hr1_5
  have HC1_5 := Aside0.mk hc1_5
  clear hr1_5 hc1_5
  have HR1_6 := Aside0.mk hr1_6
  have HC1_6 := Aside0.mk hc1_6
  clear hr1_6 hc1_6
  have HR1_7 := Aside0.mk hr1_7
  have HC1_7 := Aside0.mk hc1_7
  clear hr1_7 hc1_7
  have HB := Aside0.mk (Below.refl w.heap.size w)
  have H : (if a0_3 = a1_3 then (spec_l3Same.j0 k ((l0_2.length : Int) != (l1_2.length : Int)) a0_0 a0_1 l0_2 a0_3 a0_4 l0_5 l0_6 l0_7 a1_0 a1_1 l1_2 a1_3 a1_4 l1_5 l1_6 l1_7) else (spec_l3Same.j0 k true a0_0 a0_1 l0_2 a0_3 a0_4 l0_5 l0_6 l0_7 a1_0 a1_1 l1_2 a1_3 a1_4 l1_5 l1_6 l1_7)) = some r := h
  clear h
  have HC3 := Aside0.mk H
  clear H
  go_enter Try.func39, Try.ntmps39
  go_upto_region 1 with (first | ((with_reducible refine gate_dst (N := 2) rfl ?_); (try (refine gate_guard (by rfl) ?_; dsimp only)); refine box_event ?hg (N := 2) ?hd (cs := #[.int .i64 a0_0, .int .i64 a0_1, .slice A0_2 l0_2.length c0_2, .int .i64 a0_3, .int .i64 a0_4, .slice A0_5 l0_5.length c0_5, .slice A0_6 l0_6.length c0_6, .slice A0_7 l0_7.length c0_7]) (t := 46) ?hr ?_; (case hd => rfl); (case hg => rfl); (case hr => first | (go_simp; done) | (go_simp; rfl)); intro gb193 hg w4 hbox hb; have n0_ := Aside0.mk (below_step (by repeat (first | (with_reducible first | exact HB.out | apply below_alloc | apply pw_below_drewN | apply below_drew1) | exact HB.out)) hb); have n1_ := Aside0.mk (hbox); have n2_ := Aside0.mk ((by rw [hg]; exact (below_size (by repeat (first | (with_reducible first | exact HB.out | apply below_alloc | apply pw_below_drewN | apply below_drew1) | exact HB.out))) : w.heap.size ≤ gb193)); have n3_ := Aside0.mk ((by rw [hg]; exact (below_size (by repeat (first | (with_reducible first | exact HB.out | apply below_alloc | apply pw_below_drewN | apply below_drew1) | exact HB.out))) : w.heap.size ≤ gb193)); clear HB; have HB := n0_; have BK193 := n1_; have GW193 := n2_; have GE193 := n3_; clear n0_ n1_ n2_ n3_; clear hb hbox hg) | ((with_reducible refine gate_dst (N := 3) rfl ?_); (try (refine gate_guard (by rfl) ?_; dsimp only)); refine box_event ?hg (N := 3) ?hd (cs := #[.int .i64 a1_0, .int .i64 a1_1, .slice A1_2 l1_2.length c1_2, .int .i64 a1_3, .int .i64 a1_4, .slice A1_5 l1_5.length c1_5, .slice A1_6 l1_6.length c1_6, .slice A1_7 l1_7.length c1_7]) (t := 46) ?hr ?_; (case hd => rfl); (case hg => rfl); (case hr => first | (go_simp; done) | (go_simp; rfl)); intro gb194 hg w5 hbox hb; have n0_ := Aside0.mk (blk_below (g := gb193) (o := .cells #[.int .i64 a0_0, .int .i64 a0_1, .slice A0_2 l0_2.length c0_2, .int .i64 a0_3, .int .i64 a0_4, .slice A0_5 l0_5.length c0_5, .slice A0_6 l0_6.length c0_6, .slice A0_7 l0_7.length c0_7] 46 (0, 0)) (by (with_reducible repeat (first | refine blk_drewN ?_ _ | refine blk_drew ?_ | refine blk_alloc ?_ _)); exact BK193.out) hb); have n1_ := Aside0.mk (below_step (by repeat (first | (with_reducible first | exact HB.out | apply below_alloc | apply pw_below_drewN | apply below_drew1 | refine below_set ?_ GE193.out) | exact HB.out)) hb); have n2_ := Aside0.mk (hbox); have n3_ := Aside0.mk ((by rw [hg]; exact (below_size (by repeat (first | (with_reducible first | exact HB.out | apply below_alloc | apply pw_below_drewN | apply below_drew1 | refine below_set ?_ GE193.out) | exact HB.out))) : w.heap.size ≤ gb194)); have n4_ := Aside0.mk ((by rw [hg]; exact (below_size (by repeat (first | (with_reducible first | exact HB.out | apply below_alloc | apply pw_below_drewN | apply below_drew1 | refine below_set ?_ GE193.out) | exact HB.out))) : w.heap.size ≤ gb194)); have n5_ := Aside0.mk ((by rw [hg]; exact Nat.ne_of_lt (blk_lt (g := gb193) (o := .cells #[.int .i64 a0_0, .int .i64 a0_1, .slice A0_2 l0_2.length c0_2, .int .i64 a0_3, .int .i64 a0_4, .slice A0_5 l0_5.length c0_5, .slice A0_6 l0_6.length c0_6, .slice A0_7 l0_7.length c0_7] 46 (0, 0)) (by (with_reducible repeat (first | refine blk_drewN ?_ _ | refine blk_drew ?_ | refine blk_alloc ?_ _)); exact BK193.out)) : gb193 ≠ gb194)); have n6_ := Aside0.mk ((by rw [hg]; exact Nat.ne_of_gt (blk_lt (g := gb193) (o := .cells #[.int .i64 a0_0, .int .i64 a0_1, .slice A0_2 l0_2.length c0_2, .int .i64 a0_3, .int .i64 a0_4, .slice A0_5 l0_5.length c0_5, .slice A0_6 l0_6.length c0_6, .slice A0_7 l0_7.length c0_7] 46 (0, 0)) (by (with_reducible repeat (first | refine blk_drewN ?_ _ | refine blk_drew ?_ | refine blk_alloc ?_ _)); exact BK193.out)) : gb194 ≠ gb193)); clear BK193; clear HB; have BK193 := n0_; have HB := n1_; have BK194 := n2_; have GW194 := n3_; have GE194 := n4_; have NB193_194 := n5_; have NB194_193 := n6_; clear n0_ n1_ n2_ n3_ n4_ n5_ n6_; clear hb hbox hg))
  repeat (go_quiet (first | ((with_reducible refine gate_dst (N := 2) rfl ?_); (try (refine gate_guard (by rfl) ?_; dsimp only)); refine box_event ?hg (N := 2) ?hd (cs := #[.int .i64 a0_0, .int .i64 a0_1, .slice A0_2 l0_2.length c0_2, .int .i64 a0_3, .int .i64 a0_4, .slice A0_5 l0_5.length c0_5, .slice A0_6 l0_6.length c0_6, .slice A0_7 l0_7.length c0_7]) (t := 46) ?hr ?_; (case hd => rfl); (case hg => rfl); (case hr => first | (go_simp; done) | (go_simp; rfl)); intro gb193 hg w4 hbox hb; have n0_ := Aside0.mk (below_step (by repeat (first | (with_reducible first | exact HB.out | apply below_alloc | apply pw_below_drewN | apply below_drew1) | exact HB.out)) hb); have n1_ := Aside0.mk (hbox); have n2_ := Aside0.mk ((by rw [hg]; exact (below_size (by repeat (first | (with_reducible first | exact HB.out | apply below_alloc | apply pw_below_drewN | apply below_drew1) | exact HB.out))) : w.heap.size ≤ gb193)); have n3_ := Aside0.mk ((by rw [hg]; exact (below_size (by repeat (first | (with_reducible first | exact HB.out | apply below_alloc | apply pw_below_drewN | apply below_drew1) | exact HB.out))) : w.heap.size ≤ gb193)); clear HB; have HB := n0_; have BK193 := n1_; have GW193 := n2_; have GE193 := n3_; clear n0_ n1_ n2_ n3_; clear hb hbox hg) | ((with_reducible refine gate_dst (N := 3) rfl ?_); (try (refine gate_guard (by rfl) ?_; dsimp only)); refine box_event ?hg (N := 3) ?hd (cs := #[.int .i64 a1_0, .int .i64 a1_1, .slice A1_2 l1_2.length c1_2, .int .i64 a1_3, .int .i64 a1_4, .slice A1_5 l1_5.length c1_5, .slice A1_6 l1_6.length c1_6, .slice A1_7 l1_7.length c1_7]) (t := 46) ?hr ?_; (case hd => rfl); (case hg => rfl); (case hr => first | (go_simp; done) | (go_simp; rfl)); intro gb194 hg w5 hbox hb; have n0_ := Aside0.mk (blk_below (g := gb193) (o := .cells #[.int .i64 a0_0, .int .i64 a0_1, .slice A0_2 l0_2.length c0_2, .int .i64 a0_3, .int .i64 a0_4, .slice A0_5 l0_5.length c0_5, .slice A0_6 l0_6.length c0_6, .slice A0_7 l0_7.length c0_7] 46 (0, 0)) (by (with_reducible repeat (first | refine blk_drewN ?_ _ | refine blk_drew ?_ | refine blk_alloc ?_ _)); exact BK193.out) hb); have n1_ := Aside0.mk (below_step (by repeat (first | (with_reducible first | exact HB.out | apply below_alloc | apply pw_below_drewN | apply below_drew1 | refine below_set ?_ GE193.out) | exact HB.out)) hb); have n2_ := Aside0.mk (hbox); have n3_ := Aside0.mk ((by rw [hg]; exact (below_size (by repeat (first | (with_reducible first | exact HB.out | apply below_alloc | apply pw_below_drewN | apply below_drew1 | refine below_set ?_ GE193.out) | exact HB.out))) : w.heap.size ≤ gb194)); have n4_ := Aside0.mk ((by rw [hg]; exact (below_size (by repeat (first | (with_reducible first | exact HB.out | apply below_alloc | apply pw_below_drewN | apply below_drew1 | refine below_set ?_ GE193.out) | exact HB.out))) : w.heap.size ≤ gb194)); have n5_ := Aside0.mk ((by rw [hg]; exact Nat.ne_of_lt (blk_lt (g := gb193) (o := .cells #[.int .i64 a0_0, .int .i64 a0_1, .slice A0_2 l0_2.length c0_2, .int .i64 a0_3, .int .i64 a0_4, .slice A0_5 l0_5.length c0_5, .slice A0_6 l0_6.length c0_6, .slice A0_7 l0_7.length c0_7] 46 (0, 0)) (by (with_reducible repeat (first | refine blk_drewN ?_ _ | refine blk_drew ?_ | refine blk_alloc ?_ _)); exact BK193.out)) : gb193 ≠ gb194)); have n6_ := Aside0.mk ((by rw [hg]; exact Nat.ne_of_gt (blk_lt (g := gb193) (o := .cells #[.int .i64 a0_0, .int .i64 a0_1, .slice A0_2 l0_2.length c0_2, .int .i64 a0_3, .int .i64 a0_4, .slice A0_5 l0_5.length c0_5, .slice A0_6 l0_6.length c0_6, .slice A0_7 l0_7.length c0_7] 46 (0, 0)) (by (with_reducible repeat (first | refine blk_drewN ?_ _ | refine blk_drew ?_ | refine blk_alloc ?_ _)); exact BK193.out)) : gb194 ≠ gb193)); clear BK193; clear HB; have BK193 := n0_; have HB := n1_; have BK194 := n2_; have GW194 := n3_; have GE194 := n4_; have NB193_194 := n5_; have NB194_193 := n6_; clear n0_ n1_ n2_ n3_ n4_ n5_ n6_; clear hb hbox hg)); go_upto_region 1 with (first | ((with_reducible refine gate_dst (N := 2) rfl ?_); (try (refine gate_guard (by rfl) ?_; dsimp only)); refine box_event ?hg (N := 2) ?hd (cs := #[.int .i64 a0_0, .int .i64 a0_1, .slice A0_2 l0_2.length c0_2, .int .i64 a0_3, .int .i64 a0_4, .slice A0_5 l0_5.length c0_5, .slice A0_6 l0_6.length c0_6, .slice A0_7 l0_7.length c0_7]) (t := 46) ?hr ?_; (case hd => rfl); (case hg => rfl); (case hr => first | (go_simp; done) | (go_simp; rfl)); intro gb193 hg w4 hbox hb; have n0_ := Aside0.mk (below_step (by repeat (first | (with_reducible first | exact HB.out | apply below_alloc | apply pw_below_drewN | apply below_drew1) | exact HB.out)) hb); have n1_ := Aside0.mk (hbox); have n2_ := Aside0.mk ((by rw [hg]; exact (below_size (by repeat (first | (with_reducible first | exact HB.out | apply below_alloc | apply pw_below_drewN | apply below_drew1) | exact HB.out))) : w.heap.size ≤ gb193)); have n3_ := Aside0.mk ((by rw [hg]; exact (below_size (by repeat (first | (with_reducible first | exact HB.out | apply below_alloc | apply pw_below_drewN | apply below_drew1) | exact HB.out))) : w.heap.size ≤ gb193)); clear HB; have HB := n0_; have BK193 := n1_; have GW193 := n2_; have GE193 := n3_; clear n0_ n1_ n2_ n3_; clear hb hbox hg) | ((with_reducible refine gate_dst (N := 3) rfl ?_); (try (refine gate_guard (by rfl) ?_; dsimp only)); refine box_event ?hg (N := 3) ?hd (cs := #[.int .i64 a1_0, .int .i64 a1_1, .slice A1_2 l1_2.length c1_2, .int .i64 a1_3, .int .i64 a1_4, .slice A1_5 l1_5.length c1_5, .slice A1_6 l1_6.length c1_6, .slice A1_7 l1_7.length c1_7]) (t := 46) ?hr ?_; (case hd => rfl); (case hg => rfl); (case hr => first | (go_simp; done) | (go_simp; rfl)); intro gb194 hg w5 hbox hb; have n0_ := Aside0.mk (blk_below (g := gb193) (o := .cells #[.int .i64 a0_0, .int .i64 a0_1, .slice A0_2 l0_2.length c0_2, .int .i64 a0_3, .int .i64 a0_4, .slice A0_5 l0_5.length c0_5, .slice A0_6 l0_6.length c0_6, .slice A0_7 l0_7.length c0_7] 46 (0, 0)) (by (with_reducible repeat (first | refine blk_drewN ?_ _ | refine blk_drew ?_ | refine blk_alloc ?_ _)); exact BK193.out) hb); have n1_ := Aside0.mk (below_step (by repeat (first | (with_reducible first | exact HB.out | apply below_alloc | apply pw_below_drewN | apply below_drew1 | refine below_set ?_ GE193.out) | exact HB.out)) hb); have n2_ := Aside0.mk (hbox); have n3_ := Aside0.mk ((by rw [hg]; exact (below_size (by repeat (first | (with_reducible first | exact HB.out | apply below_alloc | apply pw_below_drewN | apply below_drew1 | refine below_set ?_ GE193.out) | exact HB.out))) : w.heap.size ≤ gb194)); have n4_ := Aside0.mk ((by rw [hg]; exact (below_size (by repeat (first | (with_reducible first | exact HB.out | apply below_alloc | apply pw_below_drewN | apply below_drew1 | refine below_set ?_ GE193.out) | exact HB.out))) : w.heap.size ≤ gb194)); have n5_ := Aside0.mk ((by rw [hg]; exact Nat.ne_of_lt (blk_lt (g := gb193) (o := .cells #[.int .i64 a0_0, .int .i64 a0_1, .slice A0_2 l0_2.length c0_2, .int .i64 a0_3, .int .i64 a0_4, .slice A0_5 l0_5.length c0_5, .slice A0_6 l0_6.length c0_6, .slice A0_7 l0_7.length c0_7] 46 (0, 0)) (by (with_reducible repeat (first | refine blk_drewN ?_ _ | refine blk_drew ?_ | refine blk_alloc ?_ _)); exact BK193.out)) : gb193 ≠ gb194)); have n6_ := Aside0.mk ((by rw [hg]; exact Nat.ne_of_gt (blk_lt (g := gb193) (o := .cells #[.int .i64 a0_0, .int .i64 a0_1, .slice A0_2 l0_2.length c0_2, .int .i64 a0_3, .int .i64 a0_4, .slice A0_5 l0_5.length c0_5, .slice A0_6 l0_6.length c0_6, .slice A0_7 l0_7.length c0_7] 46 (0, 0)) (by (with_reducible repeat (first | refine blk_drewN ?_ _ | refine blk_drew ?_ | refine blk_alloc ?_ _)); exact BK193.out)) : gb194 ≠ gb193)); clear BK193; clear HB; have BK193 := n0_; have HB := n1_; have BK194 := n2_; have GW194 := n3_; have GE194 := n4_; have NB193_194 := n5_; have NB194_193 := n6_; clear n0_ n1_ n2_ n3_ n4_ n5_ n6_; clear hb hbox hg)))
  (try simp only [Act.put, List.setIfInBounds_toArray, List.set_cons_zero, List.set_cons_succ])
  go_cut [19] (fun v19 wc => ∃ (kq : Nat) (x19_2 : Bool), v19 = .bool x19_2 ∧ Aside0 (spec_l3Same.j0 kq x19_2 a0_0 a0_1 l0_2 a0_3 a0_4 l0_5 l0_6 l0_7 a1_0 a1_1 l1_2 a1_3 a1_4 l1_5 l1_6 l1_7 = some r) ∧ Aside0 (kq ≤ k) ∧ Aside0 (wc.heap[gb193]? = some (.cells #[.int .i64 a0_0, .int .i64 a0_1, (.slice A0_2 l0_2.length c0_2), .int .i64 a0_3, .int .i64 a0_4, (.slice A0_5 l0_5.length c0_5), (.slice A0_6 l0_6.length c0_6), (.slice A0_7 l0_7.length c0_7)] 46 (0, 0))) ∧ Aside0 (wc.heap[gb194]? = some (.cells #[.int .i64 a1_0, .int .i64 a1_1, (.slice A1_2 l1_2.length c1_2), .int .i64 a1_3, .int .i64 a1_4, (.slice A1_5 l1_5.length c1_5), (.slice A1_6 l1_6.length c1_6), (.slice A1_7 l1_7.length c1_7)] 46 (0, 0))) ∧ Aside0 (Below w.heap.size w wc))
  case first =>
    have H := HC3.out
    clear HC3
    by_cases c6 : a0_3 = a1_3
    · rw [if_pos c6] at H
      have c6b0 : (a0_3 == a1_3) = true := beq_iff_eq.mpr c6
      have c6b1 : (a0_3 != a1_3) = false := bne_eq_false_iff_eq.mpr c6
      clear c6
      (first | rw [c6b0] | (simp only [i64_w, i32_w]; rw [c6b0]) | skip)
      have H' := Aside0.mk H
      clear H
      have hnb7 := NB193_194.out
      have hnc7 := NB194_193.out
      have hcz8_0 : w5.cell? ⟨gb193, 0, none⟩ = some (.int .i64 a0_0) := (blk_cell BK193.out 0).trans rfl
      have hcz8_1 : w5.cell? ⟨gb193, 1, none⟩ = some (.int .i64 a0_1) := (blk_cell BK193.out 1).trans rfl
      have hcz8_2 : w5.cell? ⟨gb193, 2, none⟩ = some (.slice A0_2 l0_2.length c0_2) := (blk_cell BK193.out 2).trans rfl
      have hcz8_3 : w5.cell? ⟨gb193, 3, none⟩ = some (.int .i64 a0_3) := (blk_cell BK193.out 3).trans rfl
      have hcz8_4 : w5.cell? ⟨gb193, 4, none⟩ = some (.int .i64 a0_4) := (blk_cell BK193.out 4).trans rfl
      have hcz8_5 : w5.cell? ⟨gb193, 5, none⟩ = some (.slice A0_5 l0_5.length c0_5) := (blk_cell BK193.out 5).trans rfl
      have hcz8_6 : w5.cell? ⟨gb193, 6, none⟩ = some (.slice A0_6 l0_6.length c0_6) := (blk_cell BK193.out 6).trans rfl
      have hcz8_7 : w5.cell? ⟨gb193, 7, none⟩ = some (.slice A0_7 l0_7.length c0_7) := (blk_cell BK193.out 7).trans rfl
      have hfz8_0 := blk_frozen BK193.out 0
      have hfz8_1 := blk_frozen BK193.out 1
      have hfz8_2 := blk_frozen BK193.out 2
      have hfz8_3 := blk_frozen BK193.out 3
      have hfz8_4 := blk_frozen BK193.out 4
      have hfz8_5 := blk_frozen BK193.out 5
      have hfz8_6 := blk_frozen BK193.out 6
      have hfz8_7 := blk_frozen BK193.out 7
      have hcz9_0 : w5.cell? ⟨gb194, 0, none⟩ = some (.int .i64 a1_0) := (blk_cell BK194.out 0).trans rfl
      have hcz9_1 : w5.cell? ⟨gb194, 1, none⟩ = some (.int .i64 a1_1) := (blk_cell BK194.out 1).trans rfl
      have hcz9_2 : w5.cell? ⟨gb194, 2, none⟩ = some (.slice A1_2 l1_2.length c1_2) := (blk_cell BK194.out 2).trans rfl
      have hcz9_3 : w5.cell? ⟨gb194, 3, none⟩ = some (.int .i64 a1_3) := (blk_cell BK194.out 3).trans rfl
      have hcz9_4 : w5.cell? ⟨gb194, 4, none⟩ = some (.int .i64 a1_4) := (blk_cell BK194.out 4).trans rfl
      have hcz9_5 : w5.cell? ⟨gb194, 5, none⟩ = some (.slice A1_5 l1_5.length c1_5) := (blk_cell BK194.out 5).trans rfl
      have hcz9_6 : w5.cell? ⟨gb194, 6, none⟩ = some (.slice A1_6 l1_6.length c1_6) := (blk_cell BK194.out 6).trans rfl
      have hcz9_7 : w5.cell? ⟨gb194, 7, none⟩ = some (.slice A1_7 l1_7.length c1_7) := (blk_cell BK194.out 7).trans rfl
      have hfz9_0 := blk_frozen BK194.out 0
      have hfz9_1 := blk_frozen BK194.out 1
      have hfz9_2 := blk_frozen BK194.out 2
      have hfz9_3 := blk_frozen BK194.out 3
      have hfz9_4 := blk_frozen BK194.out 4
      have hfz9_5 := blk_frozen BK194.out 5
      have hfz9_6 := blk_frozen BK194.out 6
      have hfz9_7 := blk_frozen BK194.out 7
      go_wp2
      repeat (go_quiet (fail); try go_wp2)
      go_meet
      case rel => exact ⟨_, (((l0_2.length : Int) != (l1_2.length : Int))), (by first | rfl | (simp; done) | (simp [*]; done)), H', ⟨by first | omega | exact Nat.le_refl _⟩, ⟨by (with_reducible repeat (first | refine blk_drewN ?_ _ | refine blk_drew ?_ | refine blk_alloc ?_ _)); exact BK193.out⟩, ⟨by (with_reducible repeat (first | refine blk_drewN ?_ _ | refine blk_drew ?_ | refine blk_alloc ?_ _)); exact BK194.out⟩, ⟨by repeat (first | (with_reducible first | exact HB.out | apply below_alloc | apply pw_below_drewN | apply below_drew1 | refine below_set ?_ GE193.out | refine below_set ?_ GE194.out) | exact HB.out)⟩⟩
    · rw [if_neg c6] at H
      have c6b0 : (a0_3 == a1_3) = false := beq_eq_false_iff_ne.mpr c6
      have c6b1 : (a0_3 != a1_3) = true := bne_iff_ne.mpr c6
      (first | rw [c6b0] | (simp only [i64_w, i32_w]; rw [c6b0]) | skip)
      have H' := Aside0.mk H
      clear H
      have hnb10 := NB193_194.out
      have hnc10 := NB194_193.out
      have hcz11_0 : w5.cell? ⟨gb193, 0, none⟩ = some (.int .i64 a0_0) := (blk_cell BK193.out 0).trans rfl
      have hcz11_1 : w5.cell? ⟨gb193, 1, none⟩ = some (.int .i64 a0_1) := (blk_cell BK193.out 1).trans rfl
      have hcz11_2 : w5.cell? ⟨gb193, 2, none⟩ = some (.slice A0_2 l0_2.length c0_2) := (blk_cell BK193.out 2).trans rfl
      have hcz11_3 : w5.cell? ⟨gb193, 3, none⟩ = some (.int .i64 a0_3) := (blk_cell BK193.out 3).trans rfl
      have hcz11_4 : w5.cell? ⟨gb193, 4, none⟩ = some (.int .i64 a0_4) := (blk_cell BK193.out 4).trans rfl
      have hcz11_5 : w5.cell? ⟨gb193, 5, none⟩ = some (.slice A0_5 l0_5.length c0_5) := (blk_cell BK193.out 5).trans rfl
      have hcz11_6 : w5.cell? ⟨gb193, 6, none⟩ = some (.slice A0_6 l0_6.length c0_6) := (blk_cell BK193.out 6).trans rfl
      have hcz11_7 : w5.cell? ⟨gb193, 7, none⟩ = some (.slice A0_7 l0_7.length c0_7) := (blk_cell BK193.out 7).trans rfl
      have hfz11_0 := blk_frozen BK193.out 0
      have hfz11_1 := blk_frozen BK193.out 1
      have hfz11_2 := blk_frozen BK193.out 2
      have hfz11_3 := blk_frozen BK193.out 3
      have hfz11_4 := blk_frozen BK193.out 4
      have hfz11_5 := blk_frozen BK193.out 5
      have hfz11_6 := blk_frozen BK193.out 6
      have hfz11_7 := blk_frozen BK193.out 7
      have hcz12_0 : w5.cell? ⟨gb194, 0, none⟩ = some (.int .i64 a1_0) := (blk_cell BK194.out 0).trans rfl
      have hcz12_1 : w5.cell? ⟨gb194, 1, none⟩ = some (.int .i64 a1_1) := (blk_cell BK194.out 1).trans rfl
      have hcz12_2 : w5.cell? ⟨gb194, 2, none⟩ = some (.slice A1_2 l1_2.length c1_2) := (blk_cell BK194.out 2).trans rfl
      have hcz12_3 : w5.cell? ⟨gb194, 3, none⟩ = some (.int .i64 a1_3) := (blk_cell BK194.out 3).trans rfl
      have hcz12_4 : w5.cell? ⟨gb194, 4, none⟩ = some (.int .i64 a1_4) := (blk_cell BK194.out 4).trans rfl
      have hcz12_5 : w5.cell? ⟨gb194, 5, none⟩ = some (.slice A1_5 l1_5.length c1_5) := (blk_cell BK194.out 5).trans rfl
      have hcz12_6 : w5.cell? ⟨gb194, 6, none⟩ = some (.slice A1_6 l1_6.length c1_6) := (blk_cell BK194.out 6).trans rfl
      have hcz12_7 : w5.cell? ⟨gb194, 7, none⟩ = some (.slice A1_7 l1_7.length c1_7) := (blk_cell BK194.out 7).trans rfl
      have hfz12_0 := blk_frozen BK194.out 0
      have hfz12_1 := blk_frozen BK194.out 1
      have hfz12_2 := blk_frozen BK194.out 2
      have hfz12_3 := blk_frozen BK194.out 3
      have hfz12_4 := blk_frozen BK194.out 4
      have hfz12_5 := blk_frozen BK194.out 5
      have hfz12_6 := blk_frozen BK194.out 6
      have hfz12_7 := blk_frozen BK194.out 7
      go_wp2
      repeat (go_quiet (fail); try go_wp2)
      go_meet
      case rel => exact ⟨_, (true), (by first | rfl | (simp; done) | (simp [*]; done)), H', ⟨by first | omega | exact Nat.le_refl _⟩, ⟨by (with_reducible repeat (first | refine blk_drewN ?_ _ | refine blk_drew ?_ | refine blk_alloc ?_ _)); exact BK193.out⟩, ⟨by (with_reducible repeat (first | refine blk_drewN ?_ _ | refine blk_drew ?_ | refine blk_alloc ?_ _)); exact BK194.out⟩, ⟨by repeat (first | (with_reducible first | exact HB.out | apply below_alloc | apply pw_below_drewN | apply below_drew1 | refine below_set ?_ GE193.out | refine below_set ?_ GE194.out) | exact HB.out)⟩⟩
  case rest =>
    clear HC3
    try clear c1
    try clear p2
    try clear c3
    try clear c6
    try clear c6b0
    try clear c6b1
    try clear c7
    try clear c10
    try clear hcz11_0
    try clear hcz11_1
    try clear hcz11_2
    try clear hcz11_3
    try clear hcz11_4
    try clear hcz11_5
    try clear hcz11_6
    try clear hcz11_7
    try clear hcz12_0
    try clear hcz12_1
    try clear hcz12_2
    try clear hcz12_3
    try clear hcz12_4
    try clear hcz12_5
    try clear hcz12_6
    try clear hcz12_7
    try clear hcz8_0
    try clear hcz8_1
    try clear hcz8_2
    try clear hcz8_3
    try clear hcz8_4
    try clear hcz8_5
    try clear hcz8_6
    try clear hcz8_7
    try clear hcz9_0
    try clear hcz9_1
    try clear hcz9_2
    try clear hcz9_3
    try clear hcz9_4
    try clear hcz9_5
    try clear hcz9_6
    try clear hcz9_7
    try clear hfz11_0
    try clear hfz11_1
    try clear hfz11_2
    try clear hfz11_3
    try clear hfz11_4
    try clear hfz11_5
    try clear hfz11_6
    try clear hfz11_7
    try clear hfz12_0
    try clear hfz12_1
    try clear hfz12_2
    try clear hfz12_3
    try clear hfz12_4
    try clear hfz12_5
    try clear hfz12_6
    try clear hfz12_7
    try clear hfz8_0
    try clear hfz8_1
    try clear hfz8_2
    try clear hfz8_3
    try clear hfz8_4
    try clear hfz8_5
    try clear hfz8_6
    try clear hfz8_7
    try clear hfz9_0
    try clear hfz9_1
    try clear hfz9_2
    try clear hfz9_3
    try clear hfz9_4
    try clear hfz9_5
    try clear hfz9_6
    try clear hfz9_7
    obtain ⟨kq, x19_2, rfl, HA, HJ2, BK193, BK194, HB⟩ := hcut
    cases kq with
    | zero => exact absurd HA.out (by simp [spec_l3Same.j0])
    | succ kj2 =>
      have H := HA.out
      clear HA
      simp only [spec_l3Same.j0] at H
      by_cases c13 : x19_2 = true
      · subst c13
        have H1 : (some false) = some r := by rw [if_pos rfl] at H; exact H
        clear H
        have H := H1
        clear H1
        obtain rfl := Option.some.inj H
        simp only [Option.some.injEq, Prod.mk.injEq] at H
        obtain ⟨rfl⟩ := H
        go_wp2
        repeat (go_quiet (fail); try go_wp2)
        go_ret
        exact ⟨by first | rfl | (simp [errW_none, errW_some] <;> rfl) | (simp [*, errW_none, errW_some] <;> rfl), by repeat (first | (with_reducible first | exact HB.out | apply below_alloc | apply pw_below_drewN | apply below_drew1 | refine below_set ?_ GE193.out | refine below_set ?_ GE194.out) | exact HB.out)⟩
      · replace c13 := Bool.eq_false_iff.mpr c13
        subst c13
        have H1 : (spec_l3Same.l0 kj2 0 a0_0 a0_1 l0_2 a0_3 a0_4 l0_5 l0_6 l0_7 a1_0 a1_1 l1_2 a1_3 a1_4 l1_5 l1_6 l1_7) = some r := by rw [if_neg (show ¬ (false = true) by decide)] at H; exact H
        clear H
        have H := H1
        clear H1
        have H' := Aside0.mk H
        clear H
        go_wp2
        repeat (go_quiet (fail); try go_wp2)
        go_loopg [5] kj2 (fun kq v5 w' => ∃ (x5_2 : Int), v5 = .int .i64 x5_2 ∧ Aside0 (spec_l3Same.l0 kq x5_2 a0_0 a0_1 l0_2 a0_3 a0_4 l0_5 l0_6 l0_7 a1_0 a1_1 l1_2 a1_3 a1_4 l1_5 l1_6 l1_7 = some r) ∧ Aside0 (kq ≤ kj2) ∧ Aside0 (w'.heap[gb193]? = some (.cells #[.int .i64 a0_0, .int .i64 a0_1, (.slice A0_2 l0_2.length c0_2), .int .i64 a0_3, .int .i64 a0_4, (.slice A0_5 l0_5.length c0_5), (.slice A0_6 l0_6.length c0_6), (.slice A0_7 l0_7.length c0_7)] 46 (0, 0))) ∧ Aside0 (w'.heap[gb194]? = some (.cells #[.int .i64 a1_0, .int .i64 a1_1, (.slice A1_2 l1_2.length c1_2), .int .i64 a1_3, .int .i64 a1_4, (.slice A1_5 l1_5.length c1_5), (.slice A1_6 l1_6.length c1_6), (.slice A1_7 l1_7.length c1_7)] 46 (0, 0))) ∧ Aside0 (Below w.heap.size w w'))
        case atStart => exact ⟨(0), (by first | rfl | (simp; done) | (simp [*]; done)), H', ⟨Nat.le_refl _⟩, ⟨by (with_reducible repeat (first | refine blk_drewN ?_ _ | refine blk_drew ?_ | refine blk_alloc ?_ _)); exact BK193.out⟩, ⟨by (with_reducible repeat (first | refine blk_drewN ?_ _ | refine blk_drew ?_ | refine blk_alloc ?_ _)); exact BK194.out⟩, ⟨by repeat (first | (with_reducible first | exact HB.out | apply below_alloc | apply pw_below_drewN | apply below_drew1 | refine below_set ?_ GE193.out | refine below_set ?_ GE194.out) | exact HB.out)⟩⟩
        case round =>
          clear H'
          try clear c1
          try clear p2
          try clear c3
          try clear c6
          try clear c6b0
          try clear c6b1
          try clear c7
          try clear c10
          try clear c13
          try clear hcz11_0
          try clear hcz11_1
          try clear hcz11_2
          try clear hcz11_3
          try clear hcz11_4
          try clear hcz11_5
          try clear hcz11_6
          try clear hcz11_7
          try clear hcz12_0
          try clear hcz12_1
          try clear hcz12_2
          try clear hcz12_3
          try clear hcz12_4
          try clear hcz12_5
          try clear hcz12_6
          try clear hcz12_7
          try clear hcz8_0
          try clear hcz8_1
          try clear hcz8_2
          try clear hcz8_3
          try clear hcz8_4
          try clear hcz8_5
          try clear hcz8_6
          try clear hcz8_7
          try clear hcz9_0
          try clear hcz9_1
          try clear hcz9_2
          try clear hcz9_3
          try clear hcz9_4
          try clear hcz9_5
          try clear hcz9_6
          try clear hcz9_7
          try clear hfz11_0
          try clear hfz11_1
          try clear hfz11_2
          try clear hfz11_3
          try clear hfz11_4
          try clear hfz11_5
          try clear hfz11_6
          try clear hfz11_7
          try clear hfz12_0
          try clear hfz12_1
          try clear hfz12_2
          try clear hfz12_3
          try clear hfz12_4
          try clear hfz12_5
          try clear hfz12_6
          try clear hfz12_7
          try clear hfz8_0
          try clear hfz8_1
          try clear hfz8_2
          try clear hfz8_3
          try clear hfz8_4
          try clear hfz8_5
          try clear hfz8_6
          try clear hfz8_7
          try clear hfz9_0
          try clear hfz9_1
          try clear hfz9_2
          try clear hfz9_3
          try clear hfz9_4
          try clear hfz9_5
          try clear hfz9_6
          try clear hfz9_7
          try clear p2
          obtain ⟨x5_2, rfl, HA, HK2, BK193, BK194, HB⟩ := hrel
          cases gk with
          | zero => exact absurd HA.out (by simp [spec_l3Same.l0])
          | succ k2 =>
            have H := HA.out
            clear HA
            simp only [spec_l3Same.l0] at H
            by_cases c14 : x5_2 < (l0_2.length : Int)
            · rw [if_pos c14] at H
              have c14b0 : decide (x5_2 < (l0_2.length : Int)) = true := decide_eq_true c14
              clear c14
              by_cases c15 : 0 ≤ x5_2
              · rw [if_pos c15] at H
                have c15b0 : decide (0 ≤ x5_2) = true := decide_eq_true c15
                clear c15
                by_cases c16 : x5_2 < (l1_2.length : Int)
                · rw [if_pos c16] at H
                  have c16b0 : decide (x5_2 < (l1_2.length : Int)) = true := decide_eq_true c16
                  clear c16
                  by_cases c17 : (rd l0_2 x5_2) = (rd l1_2 x5_2)
                  · rw [if_pos c17] at H
                    have c17b0 : ((rd l0_2 x5_2) == (rd l1_2 x5_2)) = true := beq_iff_eq.mpr c17
                    have c17b1 : ((rd l0_2 x5_2) != (rd l1_2 x5_2)) = false := bne_eq_false_iff_eq.mpr c17
                    clear c17
                    have H' := Aside0.mk H
                    clear H
                    have hnb18 := NB193_194.out
                    have hnc18 := NB194_193.out
                    have hcz19_0 : wr.cell? ⟨gb193, 0, none⟩ = some (.int .i64 a0_0) := (blk_cell BK193.out 0).trans rfl
                    have hcz19_1 : wr.cell? ⟨gb193, 1, none⟩ = some (.int .i64 a0_1) := (blk_cell BK193.out 1).trans rfl
                    have hcz19_2 : wr.cell? ⟨gb193, 2, none⟩ = some (.slice A0_2 l0_2.length c0_2) := (blk_cell BK193.out 2).trans rfl
                    have hcz19_3 : wr.cell? ⟨gb193, 3, none⟩ = some (.int .i64 a0_3) := (blk_cell BK193.out 3).trans rfl
                    have hcz19_4 : wr.cell? ⟨gb193, 4, none⟩ = some (.int .i64 a0_4) := (blk_cell BK193.out 4).trans rfl
                    have hcz19_5 : wr.cell? ⟨gb193, 5, none⟩ = some (.slice A0_5 l0_5.length c0_5) := (blk_cell BK193.out 5).trans rfl
                    have hcz19_6 : wr.cell? ⟨gb193, 6, none⟩ = some (.slice A0_6 l0_6.length c0_6) := (blk_cell BK193.out 6).trans rfl
                    have hcz19_7 : wr.cell? ⟨gb193, 7, none⟩ = some (.slice A0_7 l0_7.length c0_7) := (blk_cell BK193.out 7).trans rfl
                    have hfz19_0 := blk_frozen BK193.out 0
                    have hfz19_1 := blk_frozen BK193.out 1
                    have hfz19_2 := blk_frozen BK193.out 2
                    have hfz19_3 := blk_frozen BK193.out 3
                    have hfz19_4 := blk_frozen BK193.out 4
                    have hfz19_5 := blk_frozen BK193.out 5
                    have hfz19_6 := blk_frozen BK193.out 6
                    have hfz19_7 := blk_frozen BK193.out 7
                    have p195 : 0 ≤ (x5_2 : Int) := of_decide_eq_true (by first | (with_reducible assumption) | assumption)
                    have q195 : x5_2 < (l0_2.length : Int) := of_decide_eq_true (by first | (with_reducible assumption) | assumption)
                    obtain ⟨ad195, e195, hx195_0⟩ := Kd.at_int HR0_2.out x5_2 p195 q195
                    cases e195
                    replace hx195_0 := (HB.out.cell (World.block_lt_of_cell? w _ hx195_0)).trans hx195_0
                    replace p195 := eq_true p195
                    replace q195 := eq_true q195
                    have hcz20_0 : wr.cell? ⟨gb194, 0, none⟩ = some (.int .i64 a1_0) := (blk_cell BK194.out 0).trans rfl
                    have hcz20_1 : wr.cell? ⟨gb194, 1, none⟩ = some (.int .i64 a1_1) := (blk_cell BK194.out 1).trans rfl
                    have hcz20_2 : wr.cell? ⟨gb194, 2, none⟩ = some (.slice A1_2 l1_2.length c1_2) := (blk_cell BK194.out 2).trans rfl
                    have hcz20_3 : wr.cell? ⟨gb194, 3, none⟩ = some (.int .i64 a1_3) := (blk_cell BK194.out 3).trans rfl
                    have hcz20_4 : wr.cell? ⟨gb194, 4, none⟩ = some (.int .i64 a1_4) := (blk_cell BK194.out 4).trans rfl
                    have hcz20_5 : wr.cell? ⟨gb194, 5, none⟩ = some (.slice A1_5 l1_5.length c1_5) := (blk_cell BK194.out 5).trans rfl
                    have hcz20_6 : wr.cell? ⟨gb194, 6, none⟩ = some (.slice A1_6 l1_6.length c1_6) := (blk_cell BK194.out 6).trans rfl
                    have hcz20_7 : wr.cell? ⟨gb194, 7, none⟩ = some (.slice A1_7 l1_7.length c1_7) := (blk_cell BK194.out 7).trans rfl
                    have hfz20_0 := blk_frozen BK194.out 0
                    have hfz20_1 := blk_frozen BK194.out 1
                    have hfz20_2 := blk_frozen BK194.out 2
                    have hfz20_3 := blk_frozen BK194.out 3
                    have hfz20_4 := blk_frozen BK194.out 4
                    have hfz20_5 := blk_frozen BK194.out 5
                    have hfz20_6 := blk_frozen BK194.out 6
                    have hfz20_7 := blk_frozen BK194.out 7
                    have p196 : 0 ≤ (x5_2 : Int) := of_decide_eq_true (by first | (with_reducible assumption) | assumption)
                    have q196 : x5_2 < (l1_2.length : Int) := of_decide_eq_true (by first | (with_reducible assumption) | assumption)
                    obtain ⟨ad196, e196, hx196_0⟩ := Kd.at_int HR1_2.out x5_2 p196 q196
                    cases e196
                    replace hx196_0 := (HB.out.cell (World.block_lt_of_cell? w _ hx196_0)).trans hx196_0
                    replace p196 := eq_true p196
                    replace q196 := eq_true q196
                    go_wp2
                    repeat (go_quiet (fail); try go_wp2)
                    go_roundg k2
                    case measure => have := HJ2.out; have := HK2.out; omega
                    case rel => exact ⟨(wrap64 (x5_2 + 1)), (by first | rfl | (simp; done) | (simp [*]; done)), H', ⟨by have := HJ2.out; have := HK2.out; omega⟩, ⟨by (with_reducible repeat (first | refine blk_drewN ?_ _ | refine blk_drew ?_ | refine blk_alloc ?_ _)); exact BK193.out⟩, ⟨by (with_reducible repeat (first | refine blk_drewN ?_ _ | refine blk_drew ?_ | refine blk_alloc ?_ _)); exact BK194.out⟩, ⟨by repeat (first | (with_reducible first | exact HB.out | apply below_alloc | apply pw_below_drewN | apply below_drew1 | refine below_set ?_ GE193.out | refine below_set ?_ GE194.out) | exact HB.out)⟩⟩
                  · rw [if_neg c17] at H
                    have c17b0 : ((rd l0_2 x5_2) == (rd l1_2 x5_2)) = false := beq_eq_false_iff_ne.mpr c17
                    have c17b1 : ((rd l0_2 x5_2) != (rd l1_2 x5_2)) = true := bne_iff_ne.mpr c17
                    obtain rfl := Option.some.inj H
                    simp only [Option.some.injEq, Prod.mk.injEq] at H
                    obtain ⟨rfl⟩ := H
                    have hnb21 := NB193_194.out
                    have hnc21 := NB194_193.out
                    have hcz22_0 : wr.cell? ⟨gb193, 0, none⟩ = some (.int .i64 a0_0) := (blk_cell BK193.out 0).trans rfl
                    have hcz22_1 : wr.cell? ⟨gb193, 1, none⟩ = some (.int .i64 a0_1) := (blk_cell BK193.out 1).trans rfl
                    have hcz22_2 : wr.cell? ⟨gb193, 2, none⟩ = some (.slice A0_2 l0_2.length c0_2) := (blk_cell BK193.out 2).trans rfl
                    have hcz22_3 : wr.cell? ⟨gb193, 3, none⟩ = some (.int .i64 a0_3) := (blk_cell BK193.out 3).trans rfl
                    have hcz22_4 : wr.cell? ⟨gb193, 4, none⟩ = some (.int .i64 a0_4) := (blk_cell BK193.out 4).trans rfl
                    have hcz22_5 : wr.cell? ⟨gb193, 5, none⟩ = some (.slice A0_5 l0_5.length c0_5) := (blk_cell BK193.out 5).trans rfl
                    have hcz22_6 : wr.cell? ⟨gb193, 6, none⟩ = some (.slice A0_6 l0_6.length c0_6) := (blk_cell BK193.out 6).trans rfl
                    have hcz22_7 : wr.cell? ⟨gb193, 7, none⟩ = some (.slice A0_7 l0_7.length c0_7) := (blk_cell BK193.out 7).trans rfl
                    have hfz22_0 := blk_frozen BK193.out 0
                    have hfz22_1 := blk_frozen BK193.out 1
                    have hfz22_2 := blk_frozen BK193.out 2
                    have hfz22_3 := blk_frozen BK193.out 3
                    have hfz22_4 := blk_frozen BK193.out 4
                    have hfz22_5 := blk_frozen BK193.out 5
                    have hfz22_6 := blk_frozen BK193.out 6
                    have hfz22_7 := blk_frozen BK193.out 7
                    have p195 : 0 ≤ (x5_2 : Int) := of_decide_eq_true (by first | (with_reducible assumption) | assumption)
                    have q195 : x5_2 < (l0_2.length : Int) := of_decide_eq_true (by first | (with_reducible assumption) | assumption)
                    obtain ⟨ad195, e195, hx195_0⟩ := Kd.at_int HR0_2.out x5_2 p195 q195
                    cases e195
                    replace hx195_0 := (HB.out.cell (World.block_lt_of_cell? w _ hx195_0)).trans hx195_0
                    replace p195 := eq_true p195
                    replace q195 := eq_true q195
                    have hcz23_0 : wr.cell? ⟨gb194, 0, none⟩ = some (.int .i64 a1_0) := (blk_cell BK194.out 0).trans rfl
                    have hcz23_1 : wr.cell? ⟨gb194, 1, none⟩ = some (.int .i64 a1_1) := (blk_cell BK194.out 1).trans rfl
                    have hcz23_2 : wr.cell? ⟨gb194, 2, none⟩ = some (.slice A1_2 l1_2.length c1_2) := (blk_cell BK194.out 2).trans rfl
                    have hcz23_3 : wr.cell? ⟨gb194, 3, none⟩ = some (.int .i64 a1_3) := (blk_cell BK194.out 3).trans rfl
                    have hcz23_4 : wr.cell? ⟨gb194, 4, none⟩ = some (.int .i64 a1_4) := (blk_cell BK194.out 4).trans rfl
                    have hcz23_5 : wr.cell? ⟨gb194, 5, none⟩ = some (.slice A1_5 l1_5.length c1_5) := (blk_cell BK194.out 5).trans rfl
                    have hcz23_6 : wr.cell? ⟨gb194, 6, none⟩ = some (.slice A1_6 l1_6.length c1_6) := (blk_cell BK194.out 6).trans rfl
                    have hcz23_7 : wr.cell? ⟨gb194, 7, none⟩ = some (.slice A1_7 l1_7.length c1_7) := (blk_cell BK194.out 7).trans rfl
                    have hfz23_0 := blk_frozen BK194.out 0
                    have hfz23_1 := blk_frozen BK194.out 1
                    have hfz23_2 := blk_frozen BK194.out 2
                    have hfz23_3 := blk_frozen BK194.out 3
                    have hfz23_4 := blk_frozen BK194.out 4
                    have hfz23_5 := blk_frozen BK194.out 5
                    have hfz23_6 := blk_frozen BK194.out 6
                    have hfz23_7 := blk_frozen BK194.out 7
                    have p196 : 0 ≤ (x5_2 : Int) := of_decide_eq_true (by first | (with_reducible assumption) | assumption)
                    have q196 : x5_2 < (l1_2.length : Int) := of_decide_eq_true (by first | (with_reducible assumption) | assumption)
                    obtain ⟨ad196, e196, hx196_0⟩ := Kd.at_int HR1_2.out x5_2 p196 q196
                    cases e196
                    replace hx196_0 := (HB.out.cell (World.block_lt_of_cell? w _ hx196_0)).trans hx196_0
                    replace p196 := eq_true p196
                    replace q196 := eq_true q196
                    go_wp2
                    repeat (go_quiet (fail); try go_wp2)
                    go_ret
                    exact ⟨by first | rfl | (simp [errW_none, errW_some] <;> rfl) | (simp [*, errW_none, errW_some] <;> rfl), by repeat (first | (with_reducible first | exact HB.out | apply below_alloc | apply pw_below_drewN | apply below_drew1 | refine below_set ?_ GE193.out | refine below_set ?_ GE194.out) | exact HB.out)⟩
                · rw [if_neg c16] at H
                  exact absurd H (by simp)
              · rw [if_neg c15] at H
                exact absurd H (by simp)
            · rw [if_neg c14] at H
              have c14b0 : decide (x5_2 < (l0_2.length : Int)) = false := decide_eq_false c14
              clear c14
              obtain rfl := Option.some.inj H
              simp only [Option.some.injEq, Prod.mk.injEq] at H
              obtain ⟨rfl⟩ := H
              have hnb24 := NB193_194.out
              have hnc24 := NB194_193.out
              have hcz25_0 : wr.cell? ⟨gb193, 0, none⟩ = some (.int .i64 a0_0) := (blk_cell BK193.out 0).trans rfl
              have hcz25_1 : wr.cell? ⟨gb193, 1, none⟩ = some (.int .i64 a0_1) := (blk_cell BK193.out 1).trans rfl
              have hcz25_2 : wr.cell? ⟨gb193, 2, none⟩ = some (.slice A0_2 l0_2.length c0_2) := (blk_cell BK193.out 2).trans rfl
              have hcz25_3 : wr.cell? ⟨gb193, 3, none⟩ = some (.int .i64 a0_3) := (blk_cell BK193.out 3).trans rfl
              have hcz25_4 : wr.cell? ⟨gb193, 4, none⟩ = some (.int .i64 a0_4) := (blk_cell BK193.out 4).trans rfl
              have hcz25_5 : wr.cell? ⟨gb193, 5, none⟩ = some (.slice A0_5 l0_5.length c0_5) := (blk_cell BK193.out 5).trans rfl
              have hcz25_6 : wr.cell? ⟨gb193, 6, none⟩ = some (.slice A0_6 l0_6.length c0_6) := (blk_cell BK193.out 6).trans rfl
              have hcz25_7 : wr.cell? ⟨gb193, 7, none⟩ = some (.slice A0_7 l0_7.length c0_7) := (blk_cell BK193.out 7).trans rfl
              have hfz25_0 := blk_frozen BK193.out 0
              have hfz25_1 := blk_frozen BK193.out 1
              have hfz25_2 := blk_frozen BK193.out 2
              have hfz25_3 := blk_frozen BK193.out 3
              have hfz25_4 := blk_frozen BK193.out 4
              have hfz25_5 := blk_frozen BK193.out 5
              have hfz25_6 := blk_frozen BK193.out 6
              have hfz25_7 := blk_frozen BK193.out 7
              go_wp2
              repeat (go_quiet (fail); try go_wp2)
              go_ret
              exact ⟨by first | rfl | (simp [errW_none, errW_some] <;> rfl) | (simp [*, errW_none, errW_some] <;> rfl), by repeat (first | (with_reducible first | exact HB.out | apply below_alloc | apply pw_below_drewN | apply below_drew1 | refine below_set ?_ GE193.out | refine below_set ?_ GE194.out) | exact HB.out)⟩
end Go.Proofs.Ytedodaifpekahaa.P

end
