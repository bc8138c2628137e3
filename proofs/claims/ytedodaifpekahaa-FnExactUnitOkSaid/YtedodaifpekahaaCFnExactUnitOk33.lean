/- A part of the claim FnExactUnitOk: texts of this session and texts that its program printed out of the translation, joined. -/
import Derived.Test.YtedodaifpekahaaCFnExactUnitOk21
import Derived.Test.YtedodaifpekahaaCFnExactUnitOk32
import Derived.Test.YtedodaifpekahaaCFnExactUnitOk0
import Derived.Test.YtedodaifpekahaaCFnExactUnitOk1
import Derived.Test.YtedodaifpekahaaCFnExactUnitOk2
import Derived.Test.YtedodaifpekahaaCFnExactUnitOk3
import Derived.Test.YtedodaifpekahaaCFnExactUnitOk4
import Derived.Test.YtedodaifpekahaaCFnExactUnitOk5
import Derived.Test.YtedodaifpekahaaCFnExactUnitOk6
import Derived.Test.YtedodaifpekahaaCFnExactUnitOk7
import Derived.Test.YtedodaifpekahaaCFnExactUnitOk8
import Derived.Test.YtedodaifpekahaaCFnExactUnitOk9
import Derived.Test.YtedodaifpekahaaCFnExactUnitOk10
import Derived.Test.YtedodaifpekahaaCFnExactUnitOk11
import Derived.Test.YtedodaifpekahaaCFnExactUnitOk12
import Derived.Test.YtedodaifpekahaaCFnExactUnitOk13
import Derived.Test.YtedodaifpekahaaCFnExactUnitOk14
import Derived.Test.YtedodaifpekahaaCFnExactUnitOk15
import Derived.Test.YtedodaifpekahaaCFnExactUnitOk16
import Derived.Test.YtedodaifpekahaaCFnExactUnitOk17
import Derived.Test.YtedodaifpekahaaCFnExactUnitOk18
import Derived.Test.YtedodaifpekahaaCFnExactUnitOk19
import Derived.Test.YtedodaifpekahaaCFnExactUnitOk20
import Derived.Test.YtedodaifpekahaaCFnExactUnitOk22
import Derived.Test.YtedodaifpekahaaCFnExactUnitOk23
import Derived.Test.YtedodaifpekahaaCFnExactUnitOk24
import Derived.Test.YtedodaifpekahaaCFnExactUnitOk25
import Derived.Test.YtedodaifpekahaaCFnExactUnitOk26
import Derived.Test.YtedodaifpekahaaCFnExactUnitOk27
import Derived.Test.YtedodaifpekahaaCFnExactUnitOk28
import Derived.Test.YtedodaifpekahaaCFnExactUnitOk29
import Derived.Test.YtedodaifpekahaaCFnExactUnitOk30
import Derived.Test.YtedodaifpekahaaCFnExactUnitOk31
section

namespace Go.Proofs.Ytedodaifpekahaa.P
open Go.RowKit Go.Proofs.YtedodaifpekahaaW.PrintWords Go.Proofs.YtedodaifpekahaaW.PrintLast Go.Proofs.YtedodaifpekahaaW.PrintMore
attribute [local go_sem] max2_int min2_int max_two min_two max_three min_three max_four min_four
set_option linter.unusedVariables false
set_option linter.unusedSimpArgs false
set_option maxHeartbeats 8000000 in
set_option maxRecDepth 100000 in
theorem laws_eqShape.calls (k : Nat) (a0_0 : Bool) (A0_1 : Option Addr) (c0_1 : Nat) (l0_1 : List Int) (A0_2 : Option Addr) (c0_2 : Nat) (l0_2 : List Int) (a1_0 : Bool) (A1_1 : Option Addr) (c1_1 : Nat) (l1_1 : List Int) (A1_2 : Option Addr) (c1_2 : Nat) (l1_2 : List Int) (r : Bool) (w : World) (hr0_1 : Kd.C (Kd.int .i64) w A0_1 l0_1.length l0_1) (hc0_1 : l0_1.length ≤ c0_1) (hr0_2 : Kd.C (Kd.int .i64) w A0_2 l0_2.length l0_2) (hc0_2 : l0_2.length ≤ c0_2) (hr1_1 : Kd.C (Kd.int .i64) w A1_1 l1_1.length l1_1) (hc1_1 : l1_1.length ≤ c1_1) (hr1_2 : Kd.C (Kd.int .i64) w A1_2 l1_2.length l1_2) (hc1_2 : l1_2.length ≤ c1_2) (h : laws_eqShape.f k a0_0 l0_1 l0_2 a1_0 l1_1 l1_2 = some r) :
    Calls Try.prog 74 #[.agg #[.bool a0_0, .slice A0_1 l0_1.length c0_1, .slice A0_2 l0_2.length c0_2], .agg #[.bool a1_0, .slice A1_1 l1_1.length c1_1, .slice A1_2 l1_2.length c1_2]] w fun e w' => e = .returned (.bool r) ∧ Below w.heap.size w w' := by
  have hu70 := Try.underlying70
  have HR0_1 := Aside0.mk hr0_1
  have HC0_1 := Aside0.mk hc0_1
  clear hr0_1 hc0_1
  have HR0_2 := Aside0.mk hr0_2
  have HC0_2 := Aside0.mk hc0_2
  clear hr0_2 hc0_2
  have HR1_1 := Aside0.mk hr1_1
  have HC1_1 := Aside0.mk hc1_1
  clear hr1_1 hc1_1
  have HR1_2 := Aside0.mk hr1_2
  have HC1_2 := Aside0.mk hc1_2
  clear hr1_2 hc1_2
  have HB := Aside0.mk (Below.refl w.heap.size w)
  have H : (if (a0_0 != a1_0) = true then (some false) else ((laws_eqIntS.f k l0_1 l1_1).bind fun t427 => (if t427 = true then ((laws_eqIntS.f k l0_2 l1_2).bind fun t428 => (if t428 = true then (some true) else (some false))) else (some false)))) = some r := h
  clear h
  by_cases c3 : (a0_0 != a1_0) = true
  · rw [if_pos c3] at H
    have c3b0 : (a0_0 != a1_0) = true := c3
    (try (have c3b1 : decide (a0_0 = a1_0) = false := by simpa using c3))
    (try (have c3b2 : (a0_0 == a1_0) = false := by simpa using c3))
    (try (have c3b3 : ¬ (a0_0 = a1_0) := by simpa using c3))
    clear c3
    obtain rfl := Option.some.inj H
    simp only [Option.some.injEq, Prod.mk.injEq] at H
    obtain ⟨rfl⟩ := H
    go_enter Try.func74, Try.ntmps74
    go_wp2_with (first | ((with_reducible refine gate_dst (N := 2) rfl ?_); refine box_event ?hg (N := 2) ?hd (cs := #[.bool a0_0, .slice A0_1 l0_1.length c0_1, .slice A0_2 l0_2.length c0_2]) (t := 70) ?hr ?_; (case hd => rfl); (case hg => rfl); (case hr => first | (go_simp; done) | (go_simp; rfl)); intro gb425 hg w4 hbox hb; have n0_ := Aside0.mk (below_step (by repeat (first | (with_reducible first | exact HB.out | apply below_alloc | apply pw_below_drewN | apply below_drew1) | exact HB.out)) hb); have n1_ := Aside0.mk (hbox); have n2_ := Aside0.mk ((by rw [hg]; exact (below_size (by repeat (first | (with_reducible first | exact HB.out | apply below_alloc | apply pw_below_drewN | apply below_drew1) | exact HB.out))) : w.heap.size ≤ gb425)); have n3_ := Aside0.mk ((by rw [hg]; exact (below_size (by repeat (first | (with_reducible first | exact HB.out | apply below_alloc | apply pw_below_drewN | apply below_drew1) | exact HB.out))) : w.heap.size ≤ gb425)); clear HB; have HB := n0_; have BK425 := n1_; have GW425 := n2_; have GE425 := n3_; clear n0_ n1_ n2_ n3_; clear hb hbox hg) | ((with_reducible refine gate_dst (N := 3) rfl ?_); refine box_event ?hg (N := 3) ?hd (cs := #[.bool a1_0, .slice A1_1 l1_1.length c1_1, .slice A1_2 l1_2.length c1_2]) (t := 70) ?hr ?_; (case hd => rfl); (case hg => rfl); (case hr => first | (go_simp; done) | (go_simp; rfl)); intro gb426 hg w5 hbox hb; have n0_ := Aside0.mk (blk_below (g := gb425) (o := .cells #[.bool a0_0, .slice A0_1 l0_1.length c0_1, .slice A0_2 l0_2.length c0_2] 70 (0, 0)) (by (with_reducible repeat (first | refine blk_drewN ?_ _ | refine blk_drew ?_ | refine blk_alloc ?_ _)); exact BK425.out) hb); have n1_ := Aside0.mk (below_step (by repeat (first | (with_reducible first | exact HB.out | apply below_alloc | apply pw_below_drewN | apply below_drew1 | refine below_set ?_ GE425.out) | exact HB.out)) hb); have n2_ := Aside0.mk (hbox); have n3_ := Aside0.mk ((by rw [hg]; exact (below_size (by repeat (first | (with_reducible first | exact HB.out | apply below_alloc | apply pw_below_drewN | apply below_drew1 | refine below_set ?_ GE425.out) | exact HB.out))) : w.heap.size ≤ gb426)); have n4_ := Aside0.mk ((by rw [hg]; exact (below_size (by repeat (first | (with_reducible first | exact HB.out | apply below_alloc | apply pw_below_drewN | apply below_drew1 | refine below_set ?_ GE425.out) | exact HB.out))) : w.heap.size ≤ gb426)); have n5_ := Aside0.mk ((by rw [hg]; exact Nat.ne_of_lt (blk_lt (g := gb425) (o := .cells #[.bool a0_0, .slice A0_1 l0_1.length c0_1, .slice A0_2 l0_2.length c0_2] 70 (0, 0)) (by (with_reducible repeat (first | refine blk_drewN ?_ _ | refine blk_drew ?_ | refine blk_alloc ?_ _)); exact BK425.out)) : gb425 ≠ gb426)); have n6_ := Aside0.mk ((by rw [hg]; exact Nat.ne_of_gt (blk_lt (g := gb425) (o := .cells #[.bool a0_0, .slice A0_1 l0_1.length c0_1, .slice A0_2 l0_2.length c0_2] 70 (0, 0)) (by (with_reducible repeat (first | refine blk_drewN ?_ _ | refine blk_drew ?_ | refine blk_alloc ?_ _)); exact BK425.out)) : gb426 ≠ gb425)); clear BK425; clear HB; have BK425 := n0_; have HB := n1_; have BK426 := n2_; have GW426 := n3_; have GE426 := n4_; have NB425_426 := n5_; have NB426_425 := n6_; clear n0_ n1_ n2_ n3_ n4_ n5_ n6_; clear hb hbox hg; have hnb6 := NB425_426.out; have hnc6 := NB426_425.out; have hcz7_0 : w5.cell? ⟨gb425, 0, none⟩ = some (.bool a0_0) := (blk_cell BK425.out 0).trans rfl; have hcz7_1 : w5.cell? ⟨gb425, 1, none⟩ = some (.slice A0_1 l0_1.length c0_1) := (blk_cell BK425.out 1).trans rfl; have hcz7_2 : w5.cell? ⟨gb425, 2, none⟩ = some (.slice A0_2 l0_2.length c0_2) := (blk_cell BK425.out 2).trans rfl; have hfz7_0 := blk_frozen BK425.out 0; have hfz7_1 := blk_frozen BK425.out 1; have hfz7_2 := blk_frozen BK425.out 2; have hcz8_0 : w5.cell? ⟨gb426, 0, none⟩ = some (.bool a1_0) := (blk_cell BK426.out 0).trans rfl; have hcz8_1 : w5.cell? ⟨gb426, 1, none⟩ = some (.slice A1_1 l1_1.length c1_1) := (blk_cell BK426.out 1).trans rfl; have hcz8_2 : w5.cell? ⟨gb426, 2, none⟩ = some (.slice A1_2 l1_2.length c1_2) := (blk_cell BK426.out 2).trans rfl; have hfz8_0 := blk_frozen BK426.out 0; have hfz8_1 := blk_frozen BK426.out 1; have hfz8_2 := blk_frozen BK426.out 2))
    go_ret
    exact ⟨by first | rfl | (simp [errW_none, errW_some] <;> rfl) | (simp [*, errW_none, errW_some] <;> rfl), by repeat (first | (with_reducible first | exact HB.out | apply below_alloc | apply pw_below_drewN | apply below_drew1 | refine below_set ?_ GE425.out | refine below_set ?_ GE426.out) | exact HB.out)⟩
  · rw [if_neg c3] at H
    have c3b0 : (a0_0 != a1_0) = false := by simpa using c3
    (try (have c3b1 : decide (a0_0 = a1_0) = true := by simpa using c3))
    (try (have c3b2 : (a0_0 == a1_0) = true := by simpa using c3))
    clear c3
    replace H := Option.bind_eq_some_iff.mp H
    obtain ⟨t427, A90, H⟩ := H
    replace H : (if t427 = true then ((laws_eqIntS.f k l0_2 l1_2).bind fun t428 => (if t428 = true then (some true) else (some false))) else (some false)) = some r := H
    have A9 := Aside0.mk A90
    clear A90
    by_cases c10 : t427 = true
    · subst c10
      have H1 : ((laws_eqIntS.f k l0_2 l1_2).bind fun t428 => (if t428 = true then (some true) else (some false))) = some r := by rw [if_pos rfl] at H; exact H
      clear H
      have H := H1
      clear H1
      replace H := Option.bind_eq_some_iff.mp H
      obtain ⟨t428, A110, H⟩ := H
      replace H : (if t428 = true then (some true) else (some false)) = some r := H
      have A11 := Aside0.mk A110
      clear A110
      by_cases c12 : t428 = true
      · subst c12
        have H1 : (some true) = some r := by rw [if_pos rfl] at H; exact H
        clear H
        have H := H1
        clear H1
        obtain rfl := Option.some.inj H
        simp only [Option.some.injEq, Prod.mk.injEq] at H
        obtain ⟨rfl⟩ := H
        go_enter Try.func74, Try.ntmps74
        go_wp2_with (first | ((with_reducible refine gate_dst (N := 2) rfl ?_); refine box_event ?hg (N := 2) ?hd (cs := #[.bool a0_0, .slice A0_1 l0_1.length c0_1, .slice A0_2 l0_2.length c0_2]) (t := 70) ?hr ?_; (case hd => rfl); (case hg => rfl); (case hr => first | (go_simp; done) | (go_simp; rfl)); intro gb425 hg w13 hbox hb; have n0_ := Aside0.mk (below_step (by repeat (first | (with_reducible first | exact HB.out | apply below_alloc | apply pw_below_drewN | apply below_drew1) | exact HB.out)) hb); have n1_ := Aside0.mk (hbox); have n2_ := Aside0.mk ((by rw [hg]; exact (below_size (by repeat (first | (with_reducible first | exact HB.out | apply below_alloc | apply pw_below_drewN | apply below_drew1) | exact HB.out))) : w.heap.size ≤ gb425)); have n3_ := Aside0.mk ((by rw [hg]; exact (below_size (by repeat (first | (with_reducible first | exact HB.out | apply below_alloc | apply pw_below_drewN | apply below_drew1) | exact HB.out))) : w.heap.size ≤ gb425)); clear HB; have HB := n0_; have BK425 := n1_; have GW425 := n2_; have GE425 := n3_; clear n0_ n1_ n2_ n3_; clear hb hbox hg) | ((with_reducible refine gate_dst (N := 3) rfl ?_); refine box_event ?hg (N := 3) ?hd (cs := #[.bool a1_0, .slice A1_1 l1_1.length c1_1, .slice A1_2 l1_2.length c1_2]) (t := 70) ?hr ?_; (case hd => rfl); (case hg => rfl); (case hr => first | (go_simp; done) | (go_simp; rfl)); intro gb426 hg w14 hbox hb; have n0_ := Aside0.mk (blk_below (g := gb425) (o := .cells #[.bool a0_0, .slice A0_1 l0_1.length c0_1, .slice A0_2 l0_2.length c0_2] 70 (0, 0)) (by (with_reducible repeat (first | refine blk_drewN ?_ _ | refine blk_drew ?_ | refine blk_alloc ?_ _)); exact BK425.out) hb); have n1_ := Aside0.mk (below_step (by repeat (first | (with_reducible first | exact HB.out | apply below_alloc | apply pw_below_drewN | apply below_drew1 | refine below_set ?_ GE425.out) | exact HB.out)) hb); have n2_ := Aside0.mk (hbox); have n3_ := Aside0.mk ((by rw [hg]; exact (below_size (by repeat (first | (with_reducible first | exact HB.out | apply below_alloc | apply pw_below_drewN | apply below_drew1 | refine below_set ?_ GE425.out) | exact HB.out))) : w.heap.size ≤ gb426)); have n4_ := Aside0.mk ((by rw [hg]; exact (below_size (by repeat (first | (with_reducible first | exact HB.out | apply below_alloc | apply pw_below_drewN | apply below_drew1 | refine below_set ?_ GE425.out) | exact HB.out))) : w.heap.size ≤ gb426)); have n5_ := Aside0.mk ((by rw [hg]; exact Nat.ne_of_lt (blk_lt (g := gb425) (o := .cells #[.bool a0_0, .slice A0_1 l0_1.length c0_1, .slice A0_2 l0_2.length c0_2] 70 (0, 0)) (by (with_reducible repeat (first | refine blk_drewN ?_ _ | refine blk_drew ?_ | refine blk_alloc ?_ _)); exact BK425.out)) : gb425 ≠ gb426)); have n6_ := Aside0.mk ((by rw [hg]; exact Nat.ne_of_gt (blk_lt (g := gb425) (o := .cells #[.bool a0_0, .slice A0_1 l0_1.length c0_1, .slice A0_2 l0_2.length c0_2] 70 (0, 0)) (by (with_reducible repeat (first | refine blk_drewN ?_ _ | refine blk_drew ?_ | refine blk_alloc ?_ _)); exact BK425.out)) : gb426 ≠ gb425)); clear BK425; clear HB; have BK425 := n0_; have HB := n1_; have BK426 := n2_; have GW426 := n3_; have GE426 := n4_; have NB425_426 := n5_; have NB426_425 := n6_; clear n0_ n1_ n2_ n3_ n4_ n5_ n6_; clear hb hbox hg; have hnb15 := NB425_426.out; have hnc15 := NB426_425.out; have hcz16_0 : w14.cell? ⟨gb425, 0, none⟩ = some (.bool a0_0) := (blk_cell BK425.out 0).trans rfl; have hcz16_1 : w14.cell? ⟨gb425, 1, none⟩ = some (.slice A0_1 l0_1.length c0_1) := (blk_cell BK425.out 1).trans rfl; have hcz16_2 : w14.cell? ⟨gb425, 2, none⟩ = some (.slice A0_2 l0_2.length c0_2) := (blk_cell BK425.out 2).trans rfl; have hfz16_0 := blk_frozen BK425.out 0; have hfz16_1 := blk_frozen BK425.out 1; have hfz16_2 := blk_frozen BK425.out 2; have hcz17_0 : w14.cell? ⟨gb426, 0, none⟩ = some (.bool a1_0) := (blk_cell BK426.out 0).trans rfl; have hcz17_1 : w14.cell? ⟨gb426, 1, none⟩ = some (.slice A1_1 l1_1.length c1_1) := (blk_cell BK426.out 1).trans rfl; have hcz17_2 : w14.cell? ⟨gb426, 2, none⟩ = some (.slice A1_2 l1_2.length c1_2) := (blk_cell BK426.out 2).trans rfl; have hfz17_0 := blk_frozen BK426.out 0; have hfz17_1 := blk_frozen BK426.out 1; have hfz17_2 := blk_frozen BK426.out 2) | ((with_reducible refine gate_callee (f := 65) rfl ?_); refine goesL_ (some 14) rfl rfl Try.func65 (by kernel_rfl) rfl #[.slice A0_1 l0_1.length c0_1, .slice A1_1 l1_1.length c1_1] rfl (by (try simp only [List.map_toArray, List.map_cons, List.map_nil]); first | done | rfl | (simp only [List.length_drop, List.length_take]; rfl)) ?_; (with_reducible refine (laws_eqIntS.calls k _ _ l0_1 _ _ l1_1 true _ ?side1 ?side2 ?side3 ?side4 A9.out).mono ?_); (case side1 => repeat (first | exact (Kd.C_below HR0_1.out HB.out) | (with_reducible refine Kd.C_alloc ?_ _) | (with_reducible refine Kd.C_drewN ?_ _) | (with_reducible refine Kd.C_drew ?_))); (case side2 => exact HC0_1.out); (case side3 => repeat (first | exact (Kd.C_below HR1_1.out HB.out) | (with_reducible refine Kd.C_alloc ?_ _) | (with_reducible refine Kd.C_drewN ?_ _) | (with_reducible refine Kd.C_drew ?_))); (case side4 => exact HC1_1.out); rintro e w' ⟨rfl, ⟨nd, rfl⟩⟩; refine ⟨_, rfl, ?_⟩) | ((with_reducible refine gate_callee (f := 65) rfl ?_); refine goesL_ (some 20) rfl rfl Try.func65 (by kernel_rfl) rfl #[.slice A0_2 l0_2.length c0_2, .slice A1_2 l1_2.length c1_2] rfl (by (try simp only [List.map_toArray, List.map_cons, List.map_nil]); first | done | rfl | (simp only [List.length_drop, List.length_take]; rfl)) ?_; (with_reducible refine (laws_eqIntS.calls k _ _ l0_2 _ _ l1_2 true _ ?side1 ?side2 ?side3 ?side4 A11.out).mono ?_); (case side1 => repeat (first | exact (Kd.C_below HR0_2.out (by repeat (first | (with_reducible first | exact HB.out | apply below_alloc | apply pw_below_drewN | apply below_drew1 | refine below_set ?_ GE425.out | refine below_set ?_ GE426.out) | exact HB.out))) | (with_reducible refine Kd.C_alloc ?_ _) | (with_reducible refine Kd.C_drewN ?_ _) | (with_reducible refine Kd.C_drew ?_))); (case side2 => exact HC0_2.out); (case side3 => repeat (first | exact (Kd.C_below HR1_2.out (by repeat (first | (with_reducible first | exact HB.out | apply below_alloc | apply pw_below_drewN | apply below_drew1 | refine below_set ?_ GE425.out | refine below_set ?_ GE426.out) | exact HB.out))) | (with_reducible refine Kd.C_alloc ?_ _) | (with_reducible refine Kd.C_drewN ?_ _) | (with_reducible refine Kd.C_drew ?_))); (case side4 => exact HC1_2.out); rintro e w' ⟨rfl, ⟨nd, rfl⟩⟩; refine ⟨_, rfl, ?_⟩))
        go_ret
        exact ⟨by first | rfl | (simp [errW_none, errW_some] <;> rfl) | (simp [*, errW_none, errW_some] <;> rfl), by repeat (first | (with_reducible first | exact HB.out | apply below_alloc | apply pw_below_drewN | apply below_drew1 | refine below_set ?_ GE425.out | refine below_set ?_ GE426.out) | exact HB.out)⟩
      · replace c12 := Bool.eq_false_iff.mpr c12
        subst c12
        have H1 : (some false) = some r := by rw [if_neg (show ¬ (false = true) by decide)] at H; exact H
        clear H
        have H := H1
        clear H1
        obtain rfl := Option.some.inj H
        simp only [Option.some.injEq, Prod.mk.injEq] at H
        obtain ⟨rfl⟩ := H
        go_enter Try.func74, Try.ntmps74
        go_wp2_with (first | ((with_reducible refine gate_dst (N := 2) rfl ?_); refine box_event ?hg (N := 2) ?hd (cs := #[.bool a0_0, .slice A0_1 l0_1.length c0_1, .slice A0_2 l0_2.length c0_2]) (t := 70) ?hr ?_; (case hd => rfl); (case hg => rfl); (case hr => first | (go_simp; done) | (go_simp; rfl)); intro gb425 hg w18 hbox hb; have n0_ := Aside0.mk (below_step (by repeat (first | (with_reducible first | exact HB.out | apply below_alloc | apply pw_below_drewN | apply below_drew1) | exact HB.out)) hb); have n1_ := Aside0.mk (hbox); have n2_ := Aside0.mk ((by rw [hg]; exact (below_size (by repeat (first | (with_reducible first | exact HB.out | apply below_alloc | apply pw_below_drewN | apply below_drew1) | exact HB.out))) : w.heap.size ≤ gb425)); have n3_ := Aside0.mk ((by rw [hg]; exact (below_size (by repeat (first | (with_reducible first | exact HB.out | apply below_alloc | apply pw_below_drewN | apply below_drew1) | exact HB.out))) : w.heap.size ≤ gb425)); clear HB; have HB := n0_; have BK425 := n1_; have GW425 := n2_; have GE425 := n3_; clear n0_ n1_ n2_ n3_; clear hb hbox hg) | ((with_reducible refine gate_dst (N := 3) rfl ?_); refine box_event ?hg (N := 3) ?hd (cs := #[.bool a1_0, .slice A1_1 l1_1.length c1_1, .slice A1_2 l1_2.length c1_2]) (t := 70) ?hr ?_; (case hd => rfl); (case hg => rfl); (case hr => first | (go_simp; done) | (go_simp; rfl)); intro gb426 hg w19 hbox hb; have n0_ := Aside0.mk (blk_below (g := gb425) (o := .cells #[.bool a0_0, .slice A0_1 l0_1.length c0_1, .slice A0_2 l0_2.length c0_2] 70 (0, 0)) (by (with_reducible repeat (first | refine blk_drewN ?_ _ | refine blk_drew ?_ | refine blk_alloc ?_ _)); exact BK425.out) hb); have n1_ := Aside0.mk (below_step (by repeat (first | (with_reducible first | exact HB.out | apply below_alloc | apply pw_below_drewN | apply below_drew1 | refine below_set ?_ GE425.out) | exact HB.out)) hb); have n2_ := Aside0.mk (hbox); have n3_ := Aside0.mk ((by rw [hg]; exact (below_size (by repeat (first | (with_reducible first | exact HB.out | apply below_alloc | apply pw_below_drewN | apply below_drew1 | refine below_set ?_ GE425.out) | exact HB.out))) : w.heap.size ≤ gb426)); have n4_ := Aside0.mk ((by rw [hg]; exact (below_size (by repeat (first | (with_reducible first | exact HB.out | apply below_alloc | apply pw_below_drewN | apply below_drew1 | refine below_set ?_ GE425.out) | exact HB.out))) : w.heap.size ≤ gb426)); have n5_ := Aside0.mk ((by rw [hg]; exact Nat.ne_of_lt (blk_lt (g := gb425) (o := .cells #[.bool a0_0, .slice A0_1 l0_1.length c0_1, .slice A0_2 l0_2.length c0_2] 70 (0, 0)) (by (with_reducible repeat (first | refine blk_drewN ?_ _ | refine blk_drew ?_ | refine blk_alloc ?_ _)); exact BK425.out)) : gb425 ≠ gb426)); have n6_ := Aside0.mk ((by rw [hg]; exact Nat.ne_of_gt (blk_lt (g := gb425) (o := .cells #[.bool a0_0, .slice A0_1 l0_1.length c0_1, .slice A0_2 l0_2.length c0_2] 70 (0, 0)) (by (with_reducible repeat (first | refine blk_drewN ?_ _ | refine blk_drew ?_ | refine blk_alloc ?_ _)); exact BK425.out)) : gb426 ≠ gb425)); clear BK425; clear HB; have BK425 := n0_; have HB := n1_; have BK426 := n2_; have GW426 := n3_; have GE426 := n4_; have NB425_426 := n5_; have NB426_425 := n6_; clear n0_ n1_ n2_ n3_ n4_ n5_ n6_; clear hb hbox hg; have hnb20 := NB425_426.out; have hnc20 := NB426_425.out; have hcz21_0 : w19.cell? ⟨gb425, 0, none⟩ = some (.bool a0_0) := (blk_cell BK425.out 0).trans rfl; have hcz21_1 : w19.cell? ⟨gb425, 1, none⟩ = some (.slice A0_1 l0_1.length c0_1) := (blk_cell BK425.out 1).trans rfl; have hcz21_2 : w19.cell? ⟨gb425, 2, none⟩ = some (.slice A0_2 l0_2.length c0_2) := (blk_cell BK425.out 2).trans rfl; have hfz21_0 := blk_frozen BK425.out 0; have hfz21_1 := blk_frozen BK425.out 1; have hfz21_2 := blk_frozen BK425.out 2; have hcz22_0 : w19.cell? ⟨gb426, 0, none⟩ = some (.bool a1_0) := (blk_cell BK426.out 0).trans rfl; have hcz22_1 : w19.cell? ⟨gb426, 1, none⟩ = some (.slice A1_1 l1_1.length c1_1) := (blk_cell BK426.out 1).trans rfl; have hcz22_2 : w19.cell? ⟨gb426, 2, none⟩ = some (.slice A1_2 l1_2.length c1_2) := (blk_cell BK426.out 2).trans rfl; have hfz22_0 := blk_frozen BK426.out 0; have hfz22_1 := blk_frozen BK426.out 1; have hfz22_2 := blk_frozen BK426.out 2) | ((with_reducible refine gate_callee (f := 65) rfl ?_); refine goesL_ (some 14) rfl rfl Try.func65 (by kernel_rfl) rfl #[.slice A0_1 l0_1.length c0_1, .slice A1_1 l1_1.length c1_1] rfl (by (try simp only [List.map_toArray, List.map_cons, List.map_nil]); first | done | rfl | (simp only [List.length_drop, List.length_take]; rfl)) ?_; (with_reducible refine (laws_eqIntS.calls k _ _ l0_1 _ _ l1_1 true _ ?side1 ?side2 ?side3 ?side4 A9.out).mono ?_); (case side1 => repeat (first | exact (Kd.C_below HR0_1.out HB.out) | (with_reducible refine Kd.C_alloc ?_ _) | (with_reducible refine Kd.C_drewN ?_ _) | (with_reducible refine Kd.C_drew ?_))); (case side2 => exact HC0_1.out); (case side3 => repeat (first | exact (Kd.C_below HR1_1.out HB.out) | (with_reducible refine Kd.C_alloc ?_ _) | (with_reducible refine Kd.C_drewN ?_ _) | (with_reducible refine Kd.C_drew ?_))); (case side4 => exact HC1_1.out); rintro e w' ⟨rfl, ⟨nd, rfl⟩⟩; refine ⟨_, rfl, ?_⟩) | ((with_reducible refine gate_callee (f := 65) rfl ?_); refine goesL_ (some 20) rfl rfl Try.func65 (by kernel_rfl) rfl #[.slice A0_2 l0_2.length c0_2, .slice A1_2 l1_2.length c1_2] rfl (by (try simp only [List.map_toArray, List.map_cons, List.map_nil]); first | done | rfl | (simp only [List.length_drop, List.length_take]; rfl)) ?_; (with_reducible refine (laws_eqIntS.calls k _ _ l0_2 _ _ l1_2 false _ ?side1 ?side2 ?side3 ?side4 A11.out).mono ?_); (case side1 => repeat (first | exact (Kd.C_below HR0_2.out (by repeat (first | (with_reducible first | exact HB.out | apply below_alloc | apply pw_below_drewN | apply below_drew1 | refine below_set ?_ GE425.out | refine below_set ?_ GE426.out) | exact HB.out))) | (with_reducible refine Kd.C_alloc ?_ _) | (with_reducible refine Kd.C_drewN ?_ _) | (with_reducible refine Kd.C_drew ?_))); (case side2 => exact HC0_2.out); (case side3 => repeat (first | exact (Kd.C_below HR1_2.out (by repeat (first | (with_reducible first | exact HB.out | apply below_alloc | apply pw_below_drewN | apply below_drew1 | refine below_set ?_ GE425.out | refine below_set ?_ GE426.out) | exact HB.out))) | (with_reducible refine Kd.C_alloc ?_ _) | (with_reducible refine Kd.C_drewN ?_ _) | (with_reducible refine Kd.C_drew ?_))); (case side4 => exact HC1_2.out); rintro e w' ⟨rfl, ⟨nd, rfl⟩⟩; refine ⟨_, rfl, ?_⟩))
        go_ret
        exact ⟨by first | rfl | (simp [errW_none, errW_some] <;> rfl) | (simp [*, errW_none, errW_some] <;> rfl), by repeat (first | (with_reducible first | exact HB.out | apply below_alloc | apply pw_below_drewN | apply below_drew1 | refine below_set ?_ GE425.out | refine below_set ?_ GE426.out) | exact HB.out)⟩
    · replace c10 := Bool.eq_false_iff.mpr c10
      subst c10
      have H1 : (some false) = some r := by rw [if_neg (show ¬ (false = true) by decide)] at H; exact H
      clear H
      have H := H1
      clear H1
      obtain rfl := Option.some.inj H
      simp only [Option.some.injEq, Prod.mk.injEq] at H
      obtain ⟨rfl⟩ := H
      go_enter Try.func74, Try.ntmps74
      go_wp2_with (first | ((with_reducible refine gate_dst (N := 2) rfl ?_); refine box_event ?hg (N := 2) ?hd (cs := #[.bool a0_0, .slice A0_1 l0_1.length c0_1, .slice A0_2 l0_2.length c0_2]) (t := 70) ?hr ?_; (case hd => rfl); (case hg => rfl); (case hr => first | (go_simp; done) | (go_simp; rfl)); intro gb425 hg w23 hbox hb; have n0_ := Aside0.mk (below_step (by repeat (first | (with_reducible first | exact HB.out | apply below_alloc | apply pw_below_drewN | apply below_drew1) | exact HB.out)) hb); have n1_ := Aside0.mk (hbox); have n2_ := Aside0.mk ((by rw [hg]; exact (below_size (by repeat (first | (with_reducible first | exact HB.out | apply below_alloc | apply pw_below_drewN | apply below_drew1) | exact HB.out))) : w.heap.size ≤ gb425)); have n3_ := Aside0.mk ((by rw [hg]; exact (below_size (by repeat (first | (with_reducible first | exact HB.out | apply below_alloc | apply pw_below_drewN | apply below_drew1) | exact HB.out))) : w.heap.size ≤ gb425)); clear HB; have HB := n0_; have BK425 := n1_; have GW425 := n2_; have GE425 := n3_; clear n0_ n1_ n2_ n3_; clear hb hbox hg) | ((with_reducible refine gate_dst (N := 3) rfl ?_); refine box_event ?hg (N := 3) ?hd (cs := #[.bool a1_0, .slice A1_1 l1_1.length c1_1, .slice A1_2 l1_2.length c1_2]) (t := 70) ?hr ?_; (case hd => rfl); (case hg => rfl); (case hr => first | (go_simp; done) | (go_simp; rfl)); intro gb426 hg w24 hbox hb; have n0_ := Aside0.mk (blk_below (g := gb425) (o := .cells #[.bool a0_0, .slice A0_1 l0_1.length c0_1, .slice A0_2 l0_2.length c0_2] 70 (0, 0)) (by (with_reducible repeat (first | refine blk_drewN ?_ _ | refine blk_drew ?_ | refine blk_alloc ?_ _)); exact BK425.out) hb); have n1_ := Aside0.mk (below_step (by repeat (first | (with_reducible first | exact HB.out | apply below_alloc | apply pw_below_drewN | apply below_drew1 | refine below_set ?_ GE425.out) | exact HB.out)) hb); have n2_ := Aside0.mk (hbox); have n3_ := Aside0.mk ((by rw [hg]; exact (below_size (by repeat (first | (with_reducible first | exact HB.out | apply below_alloc | apply pw_below_drewN | apply below_drew1 | refine below_set ?_ GE425.out) | exact HB.out))) : w.heap.size ≤ gb426)); have n4_ := Aside0.mk ((by rw [hg]; exact (below_size (by repeat (first | (with_reducible first | exact HB.out | apply below_alloc | apply pw_below_drewN | apply below_drew1 | refine below_set ?_ GE425.out) | exact HB.out))) : w.heap.size ≤ gb426)); have n5_ := Aside0.mk ((by rw [hg]; exact Nat.ne_of_lt (blk_lt (g := gb425) (o := .cells #[.bool a0_0, .slice A0_1 l0_1.length c0_1, .slice A0_2 l0_2.length c0_2] 70 (0, 0)) (by (with_reducible repeat (first | refine blk_drewN ?_ _ | refine blk_drew ?_ | refine blk_alloc ?_ _)); exact BK425.out)) : gb425 ≠ gb426)); have n6_ := Aside0.mk ((by rw [hg]; exact Nat.ne_of_gt (blk_lt (g := gb425) (o := .cells #[.bool a0_0, .slice A0_1 l0_1.length c0_1, .slice A0_2 l0_2.length c0_2] 70 (0, 0)) (by (with_reducible repeat (first | refine blk_drewN ?_ _ | refine blk_drew ?_ | refine blk_alloc ?_ _)); exact BK425.out)) : gb426 ≠ gb425)); clear BK425; clear HB; have BK425 := n0_; have HB := n1_; have BK426 := n2_; have GW426 := n3_; have GE426 := n4_; have NB425_426 := n5_; have NB426_425 := n6_; clear n0_ n1_ n2_ n3_ n4_ n5_ n6_; clear hb hbox hg; have hnb25 := NB425_426.out; have hnc25 := NB426_425.out; have hcz26_0 : w24.cell? ⟨gb425, 0, none⟩ = some (.bool a0_0) := (blk_cell BK425.out 0).trans rfl; have hcz26_1 : w24.cell? ⟨gb425, 1, none⟩ = some (.slice A0_1 l0_1.length c0_1) := (blk_cell BK425.out 1).trans rfl; have hcz26_2 : w24.cell? ⟨gb425, 2, none⟩ = some (.slice A0_2 l0_2.length c0_2) := (blk_cell BK425.out 2).trans rfl; have hfz26_0 := blk_frozen BK425.out 0; have hfz26_1 := blk_frozen BK425.out 1; have hfz26_2 := blk_frozen BK425.out 2; have hcz27_0 : w24.cell? ⟨gb426, 0, none⟩ = some (.bool a1_0) := (blk_cell BK426.out 0).trans rfl; have hcz27_1 : w24.cell? ⟨gb426, 1, none⟩ = some (.slice A1_1 l1_1.length c1_1) := (blk_cell BK426.out 1).trans rfl; have hcz27_2 : w24.cell? ⟨gb426, 2, none⟩ = some (.slice A1_2 l1_2.length c1_2) := (blk_cell BK426.out 2).trans rfl; have hfz27_0 := blk_frozen BK426.out 0; have hfz27_1 := blk_frozen BK426.out 1; have hfz27_2 := blk_frozen BK426.out 2) | ((with_reducible refine gate_callee (f := 65) rfl ?_); refine goesL_ (some 14) rfl rfl Try.func65 (by kernel_rfl) rfl #[.slice A0_1 l0_1.length c0_1, .slice A1_1 l1_1.length c1_1] rfl (by (try simp only [List.map_toArray, List.map_cons, List.map_nil]); first | done | rfl | (simp only [List.length_drop, List.length_take]; rfl)) ?_; (with_reducible refine (laws_eqIntS.calls k _ _ l0_1 _ _ l1_1 false _ ?side1 ?side2 ?side3 ?side4 A9.out).mono ?_); (case side1 => repeat (first | exact (Kd.C_below HR0_1.out HB.out) | (with_reducible refine Kd.C_alloc ?_ _) | (with_reducible refine Kd.C_drewN ?_ _) | (with_reducible refine Kd.C_drew ?_))); (case side2 => exact HC0_1.out); (case side3 => repeat (first | exact (Kd.C_below HR1_1.out HB.out) | (with_reducible refine Kd.C_alloc ?_ _) | (with_reducible refine Kd.C_drewN ?_ _) | (with_reducible refine Kd.C_drew ?_))); (case side4 => exact HC1_1.out); rintro e w' ⟨rfl, ⟨nd, rfl⟩⟩; refine ⟨_, rfl, ?_⟩))
      go_ret
      exact ⟨by first | rfl | (simp [errW_none, errW_some] <;> rfl) | (simp [*, errW_none, errW_some] <;> rfl), by repeat (first | (with_reducible first | exact HB.out | apply below_alloc | apply pw_below_drewN | apply below_drew1 | refine below_set ?_ GE425.out | refine below_set ?_ GE426.out) | exact HB.out)⟩
end Go.Proofs.Ytedodaifpekahaa.P

end
section

namespace Go.Proofs.Ytedodaifpekahaa.P
open Go.RowKit Go.Proofs.YtedodaifpekahaaW.PrintWords Go.Proofs.YtedodaifpekahaaW.PrintLast Go.Proofs.YtedodaifpekahaaW.PrintMore
attribute [local go_sem] max2_int min2_int max_two min_two max_three min_three max_four min_four
set_option linter.unusedVariables false
set_option linter.unusedSimpArgs false
def laws_eqShapeS.T6 : Bool × List (List Nat × List Nat) := (true, [([], []), ([], []), ([0, 1], [0, 1]), ([2], [2]), ([], []), ([], []), ([4, 5], [4, 5]), ([6], [6]), ([3, 7], [3, 7]), ([8], [8])])
def laws_eqShapeS.B6 : List Nat := [0, 0, 3, 7, 0, 0, 48, 112, 255, 511]
theorem laws_eqShapeS.tab6 : rtab .any (opsOf Try.f67 6) = laws_eqShapeS.T6 := by kernel_rfl
theorem laws_eqShapeS.bits6 : waitsOk laws_eqShapeS.T6.2 laws_eqShapeS.B6 = true := by kernel_rfl
set_option maxHeartbeats 8000000 in
set_option maxRecDepth 100000 in
theorem laws_eqShapeS.calls (k : Nat) (A0 : Option Addr) (c0 : Nat) (l0 : List (S70)) (A1 : Option Addr) (c1 : Nat) (l1 : List (S70)) (r : Bool) (w : World) (hr0 : Kd.C k70 w A0 l0.length l0) (hc0 : l0.length ≤ c0) (hr1 : Kd.C k70 w A1 l1.length l1) (hc1 : l1.length ≤ c1) (h : laws_eqShapeS.f k l0 l1 = some r) :
    Calls Try.prog 67 #[.slice A0 l0.length c0, .slice A1 l1.length c1] w fun e w' => e = .returned (.bool r) ∧ Below w.heap.size w w' := by
  have hu70 := Try.underlying70
  have HR0 := Aside0.mk hr0
  have HC0 := Aside0.mk hc0
  clear hr0 hc0
  have HR1 := Aside0.mk hr1
  have HC1 := Aside0.mk hc1
  clear hr1 hc1
  have HB := Aside0.mk (Below.refl w.heap.size w)
  have H : (if (l0.length : Int) = (l1.length : Int) then (laws_eqShapeS.l0 k l0 l1 0) else (some false)) = some r := h
  clear h
  by_cases c3 : (l0.length : Int) = (l1.length : Int)
  · rw [if_pos c3] at H
    have c3b0 : ((l0.length : Int) == (l1.length : Int)) = true := beq_iff_eq.mpr c3
    have c3b1 : ((l0.length : Int) != (l1.length : Int)) = false := bne_eq_false_iff_eq.mpr c3
    have c3b2 : (l0.length == l1.length) = true := by first | simpa using c3 | (simp at c3 ⊢; omega)
    clear c3
    have H' := Aside0.mk H
    clear H
    go_enter Try.func67, Try.ntmps67
    go_wp2
    go_loopg [5] k (fun kq v5 w' => ∃ (x5_1 : Int), v5 = .int .i64 x5_1 ∧ Aside0 (laws_eqShapeS.l0 kq l0 l1 x5_1 = some r) ∧ Aside0 (kq ≤ k) ∧ Aside0 (Below w.heap.size w w'))
    case atStart => exact ⟨(0), (by first | rfl | (simp; done) | (simp [*]; done)), H', ⟨Nat.le_refl _⟩, ⟨by repeat (first | (with_reducible first | exact HB.out | apply below_alloc | apply pw_below_drewN | apply below_drew1) | exact HB.out)⟩⟩
    case round =>
      clear H'
      try clear c1
      try clear p2
      try clear c3
      try clear c3b0
      try clear c3b1
      try clear c3b2
      obtain ⟨x5_1, rfl, HA, HK1, HB⟩ := hrel
      cases gk with
      | zero => exact absurd HA.out (by simp [laws_eqShapeS.l0])
      | succ k1 =>
        have H := HA.out
        clear HA
        simp only [laws_eqShapeS.l0] at H
        by_cases c4 : x5_1 < (l0.length : Int)
        · rw [if_pos c4] at H
          have c4b0 : decide (x5_1 < (l0.length : Int)) = true := decide_eq_true c4
          clear c4
          by_cases c5 : 0 ≤ x5_1
          · rw [if_pos c5] at H
            have c5b0 : decide (0 ≤ x5_1) = true := decide_eq_true c5
            clear c5
            by_cases c6 : x5_1 < (l1.length : Int)
            · rw [if_pos c6] at H
              have c6b0 : decide (x5_1 < (l1.length : Int)) = true := decide_eq_true c6
              clear c6
              replace H := Option.bind_eq_some_iff.mp H
              obtain ⟨t431, A70, H⟩ := H
              replace H : (if t431 = true then (laws_eqShapeS.l0 k1 l0 l1 (wrap64 (x5_1 + 1))) else (some false)) = some r := H
              have A7 := Aside0.mk A70
              clear A70
              by_cases c8 : t431 = true
              · subst c8
                have H1 : (laws_eqShapeS.l0 k1 l0 l1 (wrap64 (x5_1 + 1))) = some r := by rw [if_pos rfl] at H; exact H
                clear H
                have H := H1
                clear H1
                have H' := Aside0.mk H
                clear H
                try go_wp2
                have n0_ := Aside0.mk (below_drew1 HB.out)
                clear HB
                have HB := n0_
                clear n0_
                have p429 : 0 ≤ (x5_1 : Int) := of_decide_eq_true (by first | (with_reducible assumption) | assumption)
                have q429 : x5_1 < (l0.length : Int) := of_decide_eq_true (by first | (with_reducible assumption) | assumption)
                obtain ⟨ad429, A429_1, c429_1, A429_2, c429_2, e429, hx429_0, hx429_1, hx429_2, hl429_1, hi429_1, hl429_2, hi429_2⟩ := at_T70 HR0.out x5_1 p429 q429
                have hw429_2 := hx429_2
                have hw429_1 := hx429_1
                have hw429_0 := hx429_0
                cases e429
                replace hx429_0 := (HB.out.cell (World.block_lt_of_cell? w _ hx429_0)).trans hx429_0
                replace hx429_1 := (HB.out.cell (World.block_lt_of_cell? w _ hx429_1)).trans hx429_1
                replace hx429_2 := (HB.out.cell (World.block_lt_of_cell? w _ hx429_2)).trans hx429_2
                have HR429_1 := Aside0.mk hi429_1
                have HC429_1 := Aside0.mk hl429_1
                clear hi429_1 hl429_1
                have HR429_2 := Aside0.mk hi429_2
                have HC429_2 := Aside0.mk hl429_2
                clear hi429_2 hl429_2
                replace p429 := eq_true p429
                replace q429 := eq_true q429
                have p430 : 0 ≤ (x5_1 : Int) := of_decide_eq_true (by first | (with_reducible assumption) | assumption)
                have q430 : x5_1 < (l1.length : Int) := of_decide_eq_true (by first | (with_reducible assumption) | assumption)
                obtain ⟨ad430, A430_1, c430_1, A430_2, c430_2, e430, hx430_0, hx430_1, hx430_2, hl430_1, hi430_1, hl430_2, hi430_2⟩ := at_T70 HR1.out x5_1 p430 q430
                have hw430_2 := hx430_2
                have hw430_1 := hx430_1
                have hw430_0 := hx430_0
                cases e430
                replace hx430_0 := (HB.out.cell (World.block_lt_of_cell? w _ hx430_0)).trans hx430_0
                replace hx430_1 := (HB.out.cell (World.block_lt_of_cell? w _ hx430_1)).trans hx430_1
                replace hx430_2 := (HB.out.cell (World.block_lt_of_cell? w _ hx430_2)).trans hx430_2
                have HR430_1 := Aside0.mk hi430_1
                have HC430_1 := Aside0.mk hl430_1
                clear hi430_1 hl430_1
                have HR430_2 := Aside0.mk hi430_2
                have HC430_2 := Aside0.mk hl430_2
                clear hi430_2 hl430_2
                replace p430 := eq_true p430
                replace q430 := eq_true q430
                refine start_ (n := 10) (S := fun w' => w'.cell? (ad429.add ((x5_1).toNat * 3)) = some (.bool ((rd_T70 l0 x5_1).f0)) ∧ w'.cell? ⟨(ad429.add ((x5_1).toNat * 3)).block, (ad429.add ((x5_1).toNat * 3)).off + 1, none⟩ = some (.slice A429_1 ((rd_T70 l0 x5_1).f1).length c429_1) ∧ w'.cell? ⟨(ad429.add ((x5_1).toNat * 3)).block, (ad429.add ((x5_1).toNat * 3)).off + 2, none⟩ = some (.slice A429_2 ((rd_T70 l0 x5_1).f2).length c429_2) ∧ w'.cell? (ad430.add ((x5_1).toNat * 3)) = some (.bool ((rd_T70 l1 x5_1).f0)) ∧ w'.cell? ⟨(ad430.add ((x5_1).toNat * 3)).block, (ad430.add ((x5_1).toNat * 3)).off + 1, none⟩ = some (.slice A430_1 ((rd_T70 l1 x5_1).f1).length c430_1) ∧ w'.cell? ⟨(ad430.add ((x5_1).toNat * 3)).block, (ad430.add ((x5_1).toNat * 3)).off + 2, none⟩ = some (.slice A430_2 ((rd_T70 l1 x5_1).f2).length c430_2)) (ds := []) #[false, false, false, false, false, false, false, false, false, false] (by kernel_rfl) rfl rfl ⟨((HB.out.cell (World.block_lt_of_cell? w _ hw429_0)).trans hw429_0), ((HB.out.cell (World.block_lt_of_cell? w _ hw429_1)).trans hw429_1), ((HB.out.cell (World.block_lt_of_cell? w _ hw429_2)).trans hw429_2), ((HB.out.cell (World.block_lt_of_cell? w _ hw430_0)).trans hw430_0), ((HB.out.cell (World.block_lt_of_cell? w _ hw430_1)).trans hw430_1), ((HB.out.cell (World.block_lt_of_cell? w _ hw430_2)).trans hw430_2)⟩ (fun hHeld => ?_); refine with_tabW laws_eqShapeS.tab6 laws_eqShapeS.bits6 (fun HT_ HW_ => ?_)
                generalize wr.drew = w9 at HB HR429_1 HR429_2 HR430_1 HR430_2 hx429_0 hx429_1 hx429_2 hx430_0 hx430_1 hx430_2 hHeld ⊢
                refine pure_ (i := 0) (N := some 17) (v := ?_) (a' := ?_) #[true, false, false, false, false, false, false, false, false, false] rfl rfl (any_of HT_.out (by kernel_rfl)) (fun _ _ _ h => h) (Or.inl ⟨by rfl, ?_⟩) ?_ ?_
                rotate_left
                · intro w'
                  go_simp
                  with_reducible rfl
                rotate_left
                · simp only [Act.put, List.setIfInBounds_toArray, List.set_cons_zero, List.set_cons_succ, i64_w, i32_w]
                  rfl
                refine pure_ (i := 1) (N := some 18) (v := ?_) (a' := ?_) #[true, true, false, false, false, false, false, false, false, false] rfl rfl (any_of HT_.out (by kernel_rfl)) (fun _ _ _ h => h) (Or.inl ⟨by rfl, ?_⟩) ?_ ?_
                rotate_left
                · intro w'
                  go_simp
                  with_reducible rfl
                rotate_left
                · simp only [Act.put, List.setIfInBounds_toArray, List.set_cons_zero, List.set_cons_succ, i64_w, i32_w]
                  rfl
                refine pure_ (i := 2) (N := some 19) (v := ?_) (a' := ?_) #[true, true, true, false, false, false, false, false, false, false] rfl rfl (any_of HT_.out (by kernel_rfl)) (fun _ _ _ h => h) (Or.inl ⟨by rfl, ?_⟩) ?_ ?_
                rotate_left
                · intro w'
                  go_simp
                  with_reducible rfl
                rotate_left
                · simp only [Act.put, List.setIfInBounds_toArray, List.set_cons_zero, List.set_cons_succ, i64_w, i32_w]
                  rfl
                refine pure_ (i := 4) (N := some 21) (v := ?_) (a' := ?_) #[true, true, true, false, true, false, false, false, false, false] rfl rfl (any_of HT_.out (by kernel_rfl)) (fun _ _ _ h => h) (Or.inl ⟨by rfl, ?_⟩) ?_ ?_
                rotate_left
                · intro w'
                  go_simp
                  with_reducible rfl
                rotate_left
                · simp only [Act.put, List.setIfInBounds_toArray, List.set_cons_zero, List.set_cons_succ, i64_w, i32_w]
                  rfl
                refine pure_ (i := 5) (N := some 22) (v := ?_) (a' := ?_) #[true, true, true, false, true, true, false, false, false, false] rfl rfl (any_of HT_.out (by kernel_rfl)) (fun _ _ _ h => h) (Or.inl ⟨by rfl, ?_⟩) ?_ ?_
                rotate_left
                · intro w'
                  go_simp
                  with_reducible rfl
                rotate_left
                · simp only [Act.put, List.setIfInBounds_toArray, List.set_cons_zero, List.set_cons_succ, i64_w, i32_w]
                  rfl
                refine pure_ (i := 6) (N := some 23) (v := ?_) (a' := ?_) #[true, true, true, false, true, true, true, false, false, false] rfl rfl (any_of HT_.out (by kernel_rfl)) (fun _ _ _ h => h) (Or.inl ⟨by rfl, ?_⟩) ?_ ?_
                rotate_left
                · intro w'
                  go_simp
                  with_reducible rfl
                rotate_left
                · simp only [Act.put, List.setIfInBounds_toArray, List.set_cons_zero, List.set_cons_succ, i64_w, i32_w]
                  rfl
                refine take_ (i := 3) (N := some 20) (v := ?_) (a' := ?_) #[true, true, true, true, true, true, true, false, false, false] rfl rfl (take_ofW HT_.out HW_.out (by kernel_rfl)) (fun _ _ _ h => h) (Or.inl ⟨by rfl, ?_⟩) hHeld ?_ ?_
                rotate_left
                · rintro w' ⟨s0, s1, s2, s3, s4, s5⟩
                  go_simp
                  with_reducible rfl
                rotate_left
                · simp only [Act.put, List.setIfInBounds_toArray, List.set_cons_zero, List.set_cons_succ, i64_w, i32_w]
                  rfl
                refine take_ (i := 7) (N := some 24) (v := ?_) (a' := ?_) #[true, true, true, true, true, true, true, true, false, false] rfl rfl (take_ofW HT_.out HW_.out (by kernel_rfl)) (fun _ _ _ h => h) (Or.inl ⟨by rfl, ?_⟩) hHeld ?_ ?_
                rotate_left
                · rintro w' ⟨s0, s1, s2, s3, s4, s5⟩
                  go_simp
                  with_reducible rfl
                rotate_left
                · simp only [Act.put, List.setIfInBounds_toArray, List.set_cons_zero, List.set_cons_succ, i64_w, i32_w]
                  rfl
                refine one_ (i := 8) (N := some 25) #[true, true, true, true, true, true, true, true, true, false] rfl rfl (one_of HT_.out (by kernel_rfl)) (by decide) (fun K hK => ?_)
                refine goes_ Try.func74 (by kernel_rfl) rfl #[.agg #[.bool ((rd_T70 l0 x5_1).f0), .slice A429_1 ((rd_T70 l0 x5_1).f1).length c429_1, .slice A429_2 ((rd_T70 l0 x5_1).f2).length c429_2], .agg #[.bool ((rd_T70 l1 x5_1).f0), .slice A430_1 ((rd_T70 l1 x5_1).f1).length c430_1, .slice A430_2 ((rd_T70 l1 x5_1).f2).length c430_2]] (by rfl) rfl rfl (by (try simp only [List.map_toArray, List.map_cons, List.map_nil]); first | done | rfl | (simp only [List.length_drop, List.length_take]; rfl)) ?_
                with_reducible refine (laws_eqShape.calls k1 ((rd_T70 l0 x5_1).f0) _ _ ((rd_T70 l0 x5_1).f1) _ _ ((rd_T70 l0 x5_1).f2) ((rd_T70 l1 x5_1).f0) _ _ ((rd_T70 l1 x5_1).f1) _ _ ((rd_T70 l1 x5_1).f2) true _ ?side1 ?side2 ?side3 ?side4 ?side5 ?side6 ?side7 ?side8 A7.out).mono ?_
                (case side1 => repeat (first | exact (Kd.C_below HR429_1.out HB.out) | (with_reducible refine Kd.C_alloc ?_ _) | (with_reducible refine Kd.C_drewN ?_ _) | (with_reducible refine Kd.C_drew ?_)))
                (case side2 => exact HC429_1.out)
                (case side3 => repeat (first | exact (Kd.C_below HR429_2.out HB.out) | (with_reducible refine Kd.C_alloc ?_ _) | (with_reducible refine Kd.C_drewN ?_ _) | (with_reducible refine Kd.C_drew ?_)))
                (case side4 => exact HC429_2.out)
                (case side5 => repeat (first | exact (Kd.C_below HR430_1.out HB.out) | (with_reducible refine Kd.C_alloc ?_ _) | (with_reducible refine Kd.C_drewN ?_ _) | (with_reducible refine Kd.C_drew ?_)))
                (case side6 => exact HC430_1.out)
                (case side7 => repeat (first | exact (Kd.C_below HR430_2.out HB.out) | (with_reducible refine Kd.C_alloc ?_ _) | (with_reducible refine Kd.C_drewN ?_ _) | (with_reducible refine Kd.C_drew ?_)))
                (case side8 => exact HC430_2.out)
                rintro e w10 ⟨rfl, hb⟩
                refine ⟨_, rfl, ?_⟩
                have n0_ := Aside0.mk (below_step (by repeat (first | (with_reducible first | exact HB.out | apply below_alloc | apply pw_below_drewN | apply below_drew1) | exact HB.out)) hb)
                clear HB
                have HB := n0_
                clear n0_
                (try clear hb)
                (try clear hb2)
                (try clear hk)
                (try clear hi)
                refine hK.out _ _ ⟨((HB.out.cell (World.block_lt_of_cell? w _ hw429_0)).trans hw429_0), ((HB.out.cell (World.block_lt_of_cell? w _ hw429_1)).trans hw429_1), ((HB.out.cell (World.block_lt_of_cell? w _ hw429_2)).trans hw429_2), ((HB.out.cell (World.block_lt_of_cell? w _ hw430_0)).trans hw430_0), ((HB.out.cell (World.block_lt_of_cell? w _ hw430_1)).trans hw430_1), ((HB.out.cell (World.block_lt_of_cell? w _ hw430_2)).trans hw430_2)⟩ (fun hHeld => ?_)
                clear hK K
                refine norm_ (a' := ?_) ?_ ?_
                rotate_left
                · show Act.put _ (some 25) _ = _
                  simp only [Act.put, List.setIfInBounds_toArray, List.set_cons_zero, List.set_cons_succ, i64_w, i32_w]
                  rfl
                refine pure_ (i := 9) (N := some 26) (v := ?_) (a' := ?_) #[true, true, true, true, true, true, true, true, true, true] rfl rfl (any_of HT_.out (by kernel_rfl)) (fun _ _ _ h => h) (Or.inl ⟨by rfl, ?_⟩) ?_ ?_
                rotate_left
                · intro w'
                  go_simp
                  with_reducible rfl
                rotate_left
                · simp only [Act.put, List.setIfInBounds_toArray, List.set_cons_zero, List.set_cons_succ, i64_w, i32_w]
                  rfl
                refine done_ (done_of HT_.out (by kernel_rfl)) ?_
                try go_wp2
                go_roundg k1
                case measure => have := HK1.out; omega
                case rel => exact ⟨(wrap64 (x5_1 + 1)), (by first | rfl | (simp; done) | (simp [*]; done)), H', ⟨by have := HK1.out; omega⟩, ⟨by repeat (first | (with_reducible first | exact HB.out | apply below_alloc | apply pw_below_drewN | apply below_drew1) | exact HB.out)⟩⟩
              · replace c8 := Bool.eq_false_iff.mpr c8
                subst c8
                have H1 : (some false) = some r := by rw [if_neg (show ¬ (false = true) by decide)] at H; exact H
                clear H
                have H := H1
                clear H1
                obtain rfl := Option.some.inj H
                simp only [Option.some.injEq, Prod.mk.injEq] at H
                obtain ⟨rfl⟩ := H
                try go_wp2
                have n0_ := Aside0.mk (below_drew1 HB.out)
                clear HB
                have HB := n0_
                clear n0_
                have p429 : 0 ≤ (x5_1 : Int) := of_decide_eq_true (by first | (with_reducible assumption) | assumption)
                have q429 : x5_1 < (l0.length : Int) := of_decide_eq_true (by first | (with_reducible assumption) | assumption)
                obtain ⟨ad429, A429_1, c429_1, A429_2, c429_2, e429, hx429_0, hx429_1, hx429_2, hl429_1, hi429_1, hl429_2, hi429_2⟩ := at_T70 HR0.out x5_1 p429 q429
                have hw429_2 := hx429_2
                have hw429_1 := hx429_1
                have hw429_0 := hx429_0
                cases e429
                replace hx429_0 := (HB.out.cell (World.block_lt_of_cell? w _ hx429_0)).trans hx429_0
                replace hx429_1 := (HB.out.cell (World.block_lt_of_cell? w _ hx429_1)).trans hx429_1
                replace hx429_2 := (HB.out.cell (World.block_lt_of_cell? w _ hx429_2)).trans hx429_2
                have HR429_1 := Aside0.mk hi429_1
                have HC429_1 := Aside0.mk hl429_1
                clear hi429_1 hl429_1
                have HR429_2 := Aside0.mk hi429_2
                have HC429_2 := Aside0.mk hl429_2
                clear hi429_2 hl429_2
                replace p429 := eq_true p429
                replace q429 := eq_true q429
                have p430 : 0 ≤ (x5_1 : Int) := of_decide_eq_true (by first | (with_reducible assumption) | assumption)
                have q430 : x5_1 < (l1.length : Int) := of_decide_eq_true (by first | (with_reducible assumption) | assumption)
                obtain ⟨ad430, A430_1, c430_1, A430_2, c430_2, e430, hx430_0, hx430_1, hx430_2, hl430_1, hi430_1, hl430_2, hi430_2⟩ := at_T70 HR1.out x5_1 p430 q430
                have hw430_2 := hx430_2
                have hw430_1 := hx430_1
                have hw430_0 := hx430_0
                cases e430
                replace hx430_0 := (HB.out.cell (World.block_lt_of_cell? w _ hx430_0)).trans hx430_0
                replace hx430_1 := (HB.out.cell (World.block_lt_of_cell? w _ hx430_1)).trans hx430_1
                replace hx430_2 := (HB.out.cell (World.block_lt_of_cell? w _ hx430_2)).trans hx430_2
                have HR430_1 := Aside0.mk hi430_1
                have HC430_1 := Aside0.mk hl430_1
                clear hi430_1 hl430_1
                have HR430_2 := Aside0.mk hi430_2
                have HC430_2 := Aside0.mk hl430_2
                clear hi430_2 hl430_2
                replace p430 := eq_true p430
                replace q430 := eq_true q430
                refine start_ (n := 10) (S := fun w' => w'.cell? (ad429.add ((x5_1).toNat * 3)) = some (.bool ((rd_T70 l0 x5_1).f0)) ∧ w'.cell? ⟨(ad429.add ((x5_1).toNat * 3)).block, (ad429.add ((x5_1).toNat * 3)).off + 1, none⟩ = some (.slice A429_1 ((rd_T70 l0 x5_1).f1).length c429_1) ∧ w'.cell? ⟨(ad429.add ((x5_1).toNat * 3)).block, (ad429.add ((x5_1).toNat * 3)).off + 2, none⟩ = some (.slice A429_2 ((rd_T70 l0 x5_1).f2).length c429_2) ∧ w'.cell? (ad430.add ((x5_1).toNat * 3)) = some (.bool ((rd_T70 l1 x5_1).f0)) ∧ w'.cell? ⟨(ad430.add ((x5_1).toNat * 3)).block, (ad430.add ((x5_1).toNat * 3)).off + 1, none⟩ = some (.slice A430_1 ((rd_T70 l1 x5_1).f1).length c430_1) ∧ w'.cell? ⟨(ad430.add ((x5_1).toNat * 3)).block, (ad430.add ((x5_1).toNat * 3)).off + 2, none⟩ = some (.slice A430_2 ((rd_T70 l1 x5_1).f2).length c430_2)) (ds := []) #[false, false, false, false, false, false, false, false, false, false] (by kernel_rfl) rfl rfl ⟨((HB.out.cell (World.block_lt_of_cell? w _ hw429_0)).trans hw429_0), ((HB.out.cell (World.block_lt_of_cell? w _ hw429_1)).trans hw429_1), ((HB.out.cell (World.block_lt_of_cell? w _ hw429_2)).trans hw429_2), ((HB.out.cell (World.block_lt_of_cell? w _ hw430_0)).trans hw430_0), ((HB.out.cell (World.block_lt_of_cell? w _ hw430_1)).trans hw430_1), ((HB.out.cell (World.block_lt_of_cell? w _ hw430_2)).trans hw430_2)⟩ (fun hHeld => ?_); refine with_tabW laws_eqShapeS.tab6 laws_eqShapeS.bits6 (fun HT_ HW_ => ?_)
                generalize wr.drew = w11 at HB HR429_1 HR429_2 HR430_1 HR430_2 hx429_0 hx429_1 hx429_2 hx430_0 hx430_1 hx430_2 hHeld ⊢
                refine pure_ (i := 0) (N := some 17) (v := ?_) (a' := ?_) #[true, false, false, false, false, false, false, false, false, false] rfl rfl (any_of HT_.out (by kernel_rfl)) (fun _ _ _ h => h) (Or.inl ⟨by rfl, ?_⟩) ?_ ?_
                rotate_left
                · intro w'
                  go_simp
                  with_reducible rfl
                rotate_left
                · simp only [Act.put, List.setIfInBounds_toArray, List.set_cons_zero, List.set_cons_succ, i64_w, i32_w]
                  rfl
                refine pure_ (i := 1) (N := some 18) (v := ?_) (a' := ?_) #[true, true, false, false, false, false, false, false, false, false] rfl rfl (any_of HT_.out (by kernel_rfl)) (fun _ _ _ h => h) (Or.inl ⟨by rfl, ?_⟩) ?_ ?_
                rotate_left
                · intro w'
                  go_simp
                  with_reducible rfl
                rotate_left
                · simp only [Act.put, List.setIfInBounds_toArray, List.set_cons_zero, List.set_cons_succ, i64_w, i32_w]
                  rfl
                refine pure_ (i := 2) (N := some 19) (v := ?_) (a' := ?_) #[true, true, true, false, false, false, false, false, false, false] rfl rfl (any_of HT_.out (by kernel_rfl)) (fun _ _ _ h => h) (Or.inl ⟨by rfl, ?_⟩) ?_ ?_
                rotate_left
                · intro w'
                  go_simp
                  with_reducible rfl
                rotate_left
                · simp only [Act.put, List.setIfInBounds_toArray, List.set_cons_zero, List.set_cons_succ, i64_w, i32_w]
                  rfl
                refine pure_ (i := 4) (N := some 21) (v := ?_) (a' := ?_) #[true, true, true, false, true, false, false, false, false, false] rfl rfl (any_of HT_.out (by kernel_rfl)) (fun _ _ _ h => h) (Or.inl ⟨by rfl, ?_⟩) ?_ ?_
                rotate_left
                · intro w'
                  go_simp
                  with_reducible rfl
                rotate_left
                · simp only [Act.put, List.setIfInBounds_toArray, List.set_cons_zero, List.set_cons_succ, i64_w, i32_w]
                  rfl
                refine pure_ (i := 5) (N := some 22) (v := ?_) (a' := ?_) #[true, true, true, false, true, true, false, false, false, false] rfl rfl (any_of HT_.out (by kernel_rfl)) (fun _ _ _ h => h) (Or.inl ⟨by rfl, ?_⟩) ?_ ?_
                rotate_left
                · intro w'
                  go_simp
                  with_reducible rfl
                rotate_left
                · simp only [Act.put, List.setIfInBounds_toArray, List.set_cons_zero, List.set_cons_succ, i64_w, i32_w]
                  rfl
                refine pure_ (i := 6) (N := some 23) (v := ?_) (a' := ?_) #[true, true, true, false, true, true, true, false, false, false] rfl rfl (any_of HT_.out (by kernel_rfl)) (fun _ _ _ h => h) (Or.inl ⟨by rfl, ?_⟩) ?_ ?_
                rotate_left
                · intro w'
                  go_simp
                  with_reducible rfl
                rotate_left
                · simp only [Act.put, List.setIfInBounds_toArray, List.set_cons_zero, List.set_cons_succ, i64_w, i32_w]
                  rfl
                refine take_ (i := 3) (N := some 20) (v := ?_) (a' := ?_) #[true, true, true, true, true, true, true, false, false, false] rfl rfl (take_ofW HT_.out HW_.out (by kernel_rfl)) (fun _ _ _ h => h) (Or.inl ⟨by rfl, ?_⟩) hHeld ?_ ?_
                rotate_left
                · rintro w' ⟨s0, s1, s2, s3, s4, s5⟩
                  go_simp
                  with_reducible rfl
                rotate_left
                · simp only [Act.put, List.setIfInBounds_toArray, List.set_cons_zero, List.set_cons_succ, i64_w, i32_w]
                  rfl
                refine take_ (i := 7) (N := some 24) (v := ?_) (a' := ?_) #[true, true, true, true, true, true, true, true, false, false] rfl rfl (take_ofW HT_.out HW_.out (by kernel_rfl)) (fun _ _ _ h => h) (Or.inl ⟨by rfl, ?_⟩) hHeld ?_ ?_
                rotate_left
                · rintro w' ⟨s0, s1, s2, s3, s4, s5⟩
                  go_simp
                  with_reducible rfl
                rotate_left
                · simp only [Act.put, List.setIfInBounds_toArray, List.set_cons_zero, List.set_cons_succ, i64_w, i32_w]
                  rfl
                refine one_ (i := 8) (N := some 25) #[true, true, true, true, true, true, true, true, true, false] rfl rfl (one_of HT_.out (by kernel_rfl)) (by decide) (fun K hK => ?_)
                refine goes_ Try.func74 (by kernel_rfl) rfl #[.agg #[.bool ((rd_T70 l0 x5_1).f0), .slice A429_1 ((rd_T70 l0 x5_1).f1).length c429_1, .slice A429_2 ((rd_T70 l0 x5_1).f2).length c429_2], .agg #[.bool ((rd_T70 l1 x5_1).f0), .slice A430_1 ((rd_T70 l1 x5_1).f1).length c430_1, .slice A430_2 ((rd_T70 l1 x5_1).f2).length c430_2]] (by rfl) rfl rfl (by (try simp only [List.map_toArray, List.map_cons, List.map_nil]); first | done | rfl | (simp only [List.length_drop, List.length_take]; rfl)) ?_
                with_reducible refine (laws_eqShape.calls k1 ((rd_T70 l0 x5_1).f0) _ _ ((rd_T70 l0 x5_1).f1) _ _ ((rd_T70 l0 x5_1).f2) ((rd_T70 l1 x5_1).f0) _ _ ((rd_T70 l1 x5_1).f1) _ _ ((rd_T70 l1 x5_1).f2) false _ ?side1 ?side2 ?side3 ?side4 ?side5 ?side6 ?side7 ?side8 A7.out).mono ?_
                (case side1 => repeat (first | exact (Kd.C_below HR429_1.out HB.out) | (with_reducible refine Kd.C_alloc ?_ _) | (with_reducible refine Kd.C_drewN ?_ _) | (with_reducible refine Kd.C_drew ?_)))
                (case side2 => exact HC429_1.out)
                (case side3 => repeat (first | exact (Kd.C_below HR429_2.out HB.out) | (with_reducible refine Kd.C_alloc ?_ _) | (with_reducible refine Kd.C_drewN ?_ _) | (with_reducible refine Kd.C_drew ?_)))
                (case side4 => exact HC429_2.out)
                (case side5 => repeat (first | exact (Kd.C_below HR430_1.out HB.out) | (with_reducible refine Kd.C_alloc ?_ _) | (with_reducible refine Kd.C_drewN ?_ _) | (with_reducible refine Kd.C_drew ?_)))
                (case side6 => exact HC430_1.out)
                (case side7 => repeat (first | exact (Kd.C_below HR430_2.out HB.out) | (with_reducible refine Kd.C_alloc ?_ _) | (with_reducible refine Kd.C_drewN ?_ _) | (with_reducible refine Kd.C_drew ?_)))
                (case side8 => exact HC430_2.out)
                rintro e w12 ⟨rfl, hb⟩
                refine ⟨_, rfl, ?_⟩
                have n0_ := Aside0.mk (below_step (by repeat (first | (with_reducible first | exact HB.out | apply below_alloc | apply pw_below_drewN | apply below_drew1) | exact HB.out)) hb)
                clear HB
                have HB := n0_
                clear n0_
                (try clear hb)
                (try clear hb2)
                (try clear hk)
                (try clear hi)
                refine hK.out _ _ ⟨((HB.out.cell (World.block_lt_of_cell? w _ hw429_0)).trans hw429_0), ((HB.out.cell (World.block_lt_of_cell? w _ hw429_1)).trans hw429_1), ((HB.out.cell (World.block_lt_of_cell? w _ hw429_2)).trans hw429_2), ((HB.out.cell (World.block_lt_of_cell? w _ hw430_0)).trans hw430_0), ((HB.out.cell (World.block_lt_of_cell? w _ hw430_1)).trans hw430_1), ((HB.out.cell (World.block_lt_of_cell? w _ hw430_2)).trans hw430_2)⟩ (fun hHeld => ?_)
                clear hK K
                refine norm_ (a' := ?_) ?_ ?_
                rotate_left
                · show Act.put _ (some 25) _ = _
                  simp only [Act.put, List.setIfInBounds_toArray, List.set_cons_zero, List.set_cons_succ, i64_w, i32_w]
                  rfl
                refine pure_ (i := 9) (N := some 26) (v := ?_) (a' := ?_) #[true, true, true, true, true, true, true, true, true, true] rfl rfl (any_of HT_.out (by kernel_rfl)) (fun _ _ _ h => h) (Or.inl ⟨by rfl, ?_⟩) ?_ ?_
                rotate_left
                · intro w'
                  go_simp
                  with_reducible rfl
                rotate_left
                · simp only [Act.put, List.setIfInBounds_toArray, List.set_cons_zero, List.set_cons_succ, i64_w, i32_w]
                  rfl
                refine done_ (done_of HT_.out (by kernel_rfl)) ?_
                try go_wp2
                go_ret
                exact ⟨by first | rfl | (simp [errW_none, errW_some] <;> rfl) | (simp [*, errW_none, errW_some] <;> rfl), by repeat (first | (with_reducible first | exact HB.out | apply below_alloc | apply pw_below_drewN | apply below_drew1) | exact HB.out)⟩
            · rw [if_neg c6] at H
              exact absurd H (by simp)
          · rw [if_neg c5] at H
            exact absurd H (by simp)
        · rw [if_neg c4] at H
          have c4b0 : decide (x5_1 < (l0.length : Int)) = false := decide_eq_false c4
          clear c4
          obtain rfl := Option.some.inj H
          simp only [Option.some.injEq, Prod.mk.injEq] at H
          obtain ⟨rfl⟩ := H
          go_wp2
          go_ret
          exact ⟨by first | rfl | (simp [errW_none, errW_some] <;> rfl) | (simp [*, errW_none, errW_some] <;> rfl), by repeat (first | (with_reducible first | exact HB.out | apply below_alloc | apply pw_below_drewN | apply below_drew1) | exact HB.out)⟩
  · rw [if_neg c3] at H
    have c3b0 : ((l0.length : Int) == (l1.length : Int)) = false := beq_eq_false_iff_ne.mpr c3
    have c3b1 : ((l0.length : Int) != (l1.length : Int)) = true := bne_iff_ne.mpr c3
    have c3b2 : (l0.length == l1.length) = false := by first | simpa using c3 | (simp at c3 ⊢; omega)
    obtain rfl := Option.some.inj H
    simp only [Option.some.injEq, Prod.mk.injEq] at H
    obtain ⟨rfl⟩ := H
    go_enter Try.func67, Try.ntmps67
    go_wp2
    go_ret
    exact ⟨by first | rfl | (simp [errW_none, errW_some] <;> rfl) | (simp [*, errW_none, errW_some] <;> rfl), by repeat (first | (with_reducible first | exact HB.out | apply below_alloc | apply pw_below_drewN | apply below_drew1) | exact HB.out)⟩
end Go.Proofs.Ytedodaifpekahaa.P

end
section

namespace Go.Proofs.Ytedodaifpekahaa.P
open Go.RowKit Go.Proofs.YtedodaifpekahaaW.PrintWords Go.Proofs.YtedodaifpekahaaW.PrintLast Go.Proofs.YtedodaifpekahaaW.PrintMore
attribute [local go_sem] max2_int min2_int max_two min_two max_three min_three max_four min_four
set_option linter.unusedVariables false
set_option linter.unusedSimpArgs false
set_option maxHeartbeats 8000000 in
set_option maxRecDepth 100000 in
theorem laws_eqCatch.calls (a0_0 : Int) (a0_1 : Int) (a0_2 : Int) (a0_3 : Int) (a1_0 : Int) (a1_1 : Int) (a1_2 : Int) (a1_3 : Int) (r : Bool) (w : World) (h : laws_eqCatch.f a0_0 a0_1 a0_2 a0_3 a1_0 a1_1 a1_2 a1_3 = some r) :
    Calls Try.prog 75 #[.agg #[.int .i64 a0_0, .int .i64 a0_1, .int .i64 a0_2, .int .i64 a0_3], .agg #[.int .i64 a1_0, .int .i64 a1_1, .int .i64 a1_2, .int .i64 a1_3]] w fun e w' => e = .returned (.bool r) ∧ Below w.heap.size w w' := by
  have hu73 := Try.underlying73
  have HB := Aside0.mk (Below.refl w.heap.size w)
  have H : (if a0_0 = a1_0 then (if a0_1 = a1_1 then (if a0_2 = a1_2 then (if a0_3 = a1_3 then (some true) else (some false)) else (some false)) else (some false)) else (some false)) = some r := h
  clear h
  by_cases c3 : a0_0 = a1_0
  · rw [if_pos c3] at H
    have c3b0 : (a0_0 == a1_0) = true := beq_iff_eq.mpr c3
    have c3b1 : (a0_0 != a1_0) = false := bne_eq_false_iff_eq.mpr c3
    clear c3
    by_cases c4 : a0_1 = a1_1
    · rw [if_pos c4] at H
      have c4b0 : (a0_1 == a1_1) = true := beq_iff_eq.mpr c4
      have c4b1 : (a0_1 != a1_1) = false := bne_eq_false_iff_eq.mpr c4
      clear c4
      by_cases c5 : a0_2 = a1_2
      · rw [if_pos c5] at H
        have c5b0 : (a0_2 == a1_2) = true := beq_iff_eq.mpr c5
        have c5b1 : (a0_2 != a1_2) = false := bne_eq_false_iff_eq.mpr c5
        clear c5
        by_cases c6 : a0_3 = a1_3
        · rw [if_pos c6] at H
          have c6b0 : (a0_3 == a1_3) = true := beq_iff_eq.mpr c6
          have c6b1 : (a0_3 != a1_3) = false := bne_eq_false_iff_eq.mpr c6
          clear c6
          obtain rfl := Option.some.inj H
          simp only [Option.some.injEq, Prod.mk.injEq] at H
          obtain ⟨rfl⟩ := H
          go_enter Try.func75, Try.ntmps75
          go_wp2_with (first | ((with_reducible refine gate_dst (N := 2) rfl ?_); refine box_event ?hg (N := 2) ?hd (cs := #[.int .i64 a0_0, .int .i64 a0_1, .int .i64 a0_2, .int .i64 a0_3]) (t := 73) ?hr ?_; (case hd => rfl); (case hg => rfl); (case hr => first | (go_simp; done) | (go_simp; rfl)); intro gb432 hg w7 hbox hb; have n0_ := Aside0.mk (below_step (by repeat (first | (with_reducible first | exact HB.out | apply below_alloc | apply pw_below_drewN | apply below_drew1) | exact HB.out)) hb); have n1_ := Aside0.mk (hbox); have n2_ := Aside0.mk ((by rw [hg]; exact (below_size (by repeat (first | (with_reducible first | exact HB.out | apply below_alloc | apply pw_below_drewN | apply below_drew1) | exact HB.out))) : w.heap.size ≤ gb432)); have n3_ := Aside0.mk ((by rw [hg]; exact (below_size (by repeat (first | (with_reducible first | exact HB.out | apply below_alloc | apply pw_below_drewN | apply below_drew1) | exact HB.out))) : w.heap.size ≤ gb432)); clear HB; have HB := n0_; have BK432 := n1_; have GW432 := n2_; have GE432 := n3_; clear n0_ n1_ n2_ n3_; clear hb hbox hg) | ((with_reducible refine gate_dst (N := 3) rfl ?_); refine box_event ?hg (N := 3) ?hd (cs := #[.int .i64 a1_0, .int .i64 a1_1, .int .i64 a1_2, .int .i64 a1_3]) (t := 73) ?hr ?_; (case hd => rfl); (case hg => rfl); (case hr => first | (go_simp; done) | (go_simp; rfl)); intro gb433 hg w8 hbox hb; have n0_ := Aside0.mk (blk_below (g := gb432) (o := .cells #[.int .i64 a0_0, .int .i64 a0_1, .int .i64 a0_2, .int .i64 a0_3] 73 (0, 0)) (by (with_reducible repeat (first | refine blk_drewN ?_ _ | refine blk_drew ?_ | refine blk_alloc ?_ _)); exact BK432.out) hb); have n1_ := Aside0.mk (below_step (by repeat (first | (with_reducible first | exact HB.out | apply below_alloc | apply pw_below_drewN | apply below_drew1 | refine below_set ?_ GE432.out) | exact HB.out)) hb); have n2_ := Aside0.mk (hbox); have n3_ := Aside0.mk ((by rw [hg]; exact (below_size (by repeat (first | (with_reducible first | exact HB.out | apply below_alloc | apply pw_below_drewN | apply below_drew1 | refine below_set ?_ GE432.out) | exact HB.out))) : w.heap.size ≤ gb433)); have n4_ := Aside0.mk ((by rw [hg]; exact (below_size (by repeat (first | (with_reducible first | exact HB.out | apply below_alloc | apply pw_below_drewN | apply below_drew1 | refine below_set ?_ GE432.out) | exact HB.out))) : w.heap.size ≤ gb433)); have n5_ := Aside0.mk ((by rw [hg]; exact Nat.ne_of_lt (blk_lt (g := gb432) (o := .cells #[.int .i64 a0_0, .int .i64 a0_1, .int .i64 a0_2, .int .i64 a0_3] 73 (0, 0)) (by (with_reducible repeat (first | refine blk_drewN ?_ _ | refine blk_drew ?_ | refine blk_alloc ?_ _)); exact BK432.out)) : gb432 ≠ gb433)); have n6_ := Aside0.mk ((by rw [hg]; exact Nat.ne_of_gt (blk_lt (g := gb432) (o := .cells #[.int .i64 a0_0, .int .i64 a0_1, .int .i64 a0_2, .int .i64 a0_3] 73 (0, 0)) (by (with_reducible repeat (first | refine blk_drewN ?_ _ | refine blk_drew ?_ | refine blk_alloc ?_ _)); exact BK432.out)) : gb433 ≠ gb432)); clear BK432; clear HB; have BK432 := n0_; have HB := n1_; have BK433 := n2_; have GW433 := n3_; have GE433 := n4_; have NB432_433 := n5_; have NB433_432 := n6_; clear n0_ n1_ n2_ n3_ n4_ n5_ n6_; clear hb hbox hg; have hnb9 := NB432_433.out; have hnc9 := NB433_432.out; have hcz10_0 : w8.cell? ⟨gb432, 0, none⟩ = some (.int .i64 a0_0) := (blk_cell BK432.out 0).trans rfl; have hcz10_1 : w8.cell? ⟨gb432, 1, none⟩ = some (.int .i64 a0_1) := (blk_cell BK432.out 1).trans rfl; have hcz10_2 : w8.cell? ⟨gb432, 2, none⟩ = some (.int .i64 a0_2) := (blk_cell BK432.out 2).trans rfl; have hcz10_3 : w8.cell? ⟨gb432, 3, none⟩ = some (.int .i64 a0_3) := (blk_cell BK432.out 3).trans rfl; have hfz10_0 := blk_frozen BK432.out 0; have hfz10_1 := blk_frozen BK432.out 1; have hfz10_2 := blk_frozen BK432.out 2; have hfz10_3 := blk_frozen BK432.out 3; have hcz11_0 : w8.cell? ⟨gb433, 0, none⟩ = some (.int .i64 a1_0) := (blk_cell BK433.out 0).trans rfl; have hcz11_1 : w8.cell? ⟨gb433, 1, none⟩ = some (.int .i64 a1_1) := (blk_cell BK433.out 1).trans rfl; have hcz11_2 : w8.cell? ⟨gb433, 2, none⟩ = some (.int .i64 a1_2) := (blk_cell BK433.out 2).trans rfl; have hcz11_3 : w8.cell? ⟨gb433, 3, none⟩ = some (.int .i64 a1_3) := (blk_cell BK433.out 3).trans rfl; have hfz11_0 := blk_frozen BK433.out 0; have hfz11_1 := blk_frozen BK433.out 1; have hfz11_2 := blk_frozen BK433.out 2; have hfz11_3 := blk_frozen BK433.out 3))
          go_ret
          exact ⟨by first | rfl | (simp [errW_none, errW_some] <;> rfl) | (simp [*, errW_none, errW_some] <;> rfl), by repeat (first | (with_reducible first | exact HB.out | apply below_alloc | apply pw_below_drewN | apply below_drew1 | refine below_set ?_ GE432.out | refine below_set ?_ GE433.out) | exact HB.out)⟩
        · rw [if_neg c6] at H
          have c6b0 : (a0_3 == a1_3) = false := beq_eq_false_iff_ne.mpr c6
          have c6b1 : (a0_3 != a1_3) = true := bne_iff_ne.mpr c6
          obtain rfl := Option.some.inj H
          simp only [Option.some.injEq, Prod.mk.injEq] at H
          obtain ⟨rfl⟩ := H
          go_enter Try.func75, Try.ntmps75
          go_wp2_with (first | ((with_reducible refine gate_dst (N := 2) rfl ?_); refine box_event ?hg (N := 2) ?hd (cs := #[.int .i64 a0_0, .int .i64 a0_1, .int .i64 a0_2, .int .i64 a0_3]) (t := 73) ?hr ?_; (case hd => rfl); (case hg => rfl); (case hr => first | (go_simp; done) | (go_simp; rfl)); intro gb432 hg w12 hbox hb; have n0_ := Aside0.mk (below_step (by repeat (first | (with_reducible first | exact HB.out | apply below_alloc | apply pw_below_drewN | apply below_drew1) | exact HB.out)) hb); have n1_ := Aside0.mk (hbox); have n2_ := Aside0.mk ((by rw [hg]; exact (below_size (by repeat (first | (with_reducible first | exact HB.out | apply below_alloc | apply pw_below_drewN | apply below_drew1) | exact HB.out))) : w.heap.size ≤ gb432)); have n3_ := Aside0.mk ((by rw [hg]; exact (below_size (by repeat (first | (with_reducible first | exact HB.out | apply below_alloc | apply pw_below_drewN | apply below_drew1) | exact HB.out))) : w.heap.size ≤ gb432)); clear HB; have HB := n0_; have BK432 := n1_; have GW432 := n2_; have GE432 := n3_; clear n0_ n1_ n2_ n3_; clear hb hbox hg) | ((with_reducible refine gate_dst (N := 3) rfl ?_); refine box_event ?hg (N := 3) ?hd (cs := #[.int .i64 a1_0, .int .i64 a1_1, .int .i64 a1_2, .int .i64 a1_3]) (t := 73) ?hr ?_; (case hd => rfl); (case hg => rfl); (case hr => first | (go_simp; done) | (go_simp; rfl)); intro gb433 hg w13 hbox hb; have n0_ := Aside0.mk (blk_below (g := gb432) (o := .cells #[.int .i64 a0_0, .int .i64 a0_1, .int .i64 a0_2, .int .i64 a0_3] 73 (0, 0)) (by (with_reducible repeat (first | refine blk_drewN ?_ _ | refine blk_drew ?_ | refine blk_alloc ?_ _)); exact BK432.out) hb); have n1_ := Aside0.mk (below_step (by repeat (first | (with_reducible first | exact HB.out | apply below_alloc | apply pw_below_drewN | apply below_drew1 | refine below_set ?_ GE432.out) | exact HB.out)) hb); have n2_ := Aside0.mk (hbox); have n3_ := Aside0.mk ((by rw [hg]; exact (below_size (by repeat (first | (with_reducible first | exact HB.out | apply below_alloc | apply pw_below_drewN | apply below_drew1 | refine below_set ?_ GE432.out) | exact HB.out))) : w.heap.size ≤ gb433)); have n4_ := Aside0.mk ((by rw [hg]; exact (below_size (by repeat (first | (with_reducible first | exact HB.out | apply below_alloc | apply pw_below_drewN | apply below_drew1 | refine below_set ?_ GE432.out) | exact HB.out))) : w.heap.size ≤ gb433)); have n5_ := Aside0.mk ((by rw [hg]; exact Nat.ne_of_lt (blk_lt (g := gb432) (o := .cells #[.int .i64 a0_0, .int .i64 a0_1, .int .i64 a0_2, .int .i64 a0_3] 73 (0, 0)) (by (with_reducible repeat (first | refine blk_drewN ?_ _ | refine blk_drew ?_ | refine blk_alloc ?_ _)); exact BK432.out)) : gb432 ≠ gb433)); have n6_ := Aside0.mk ((by rw [hg]; exact Nat.ne_of_gt (blk_lt (g := gb432) (o := .cells #[.int .i64 a0_0, .int .i64 a0_1, .int .i64 a0_2, .int .i64 a0_3] 73 (0, 0)) (by (with_reducible repeat (first | refine blk_drewN ?_ _ | refine blk_drew ?_ | refine blk_alloc ?_ _)); exact BK432.out)) : gb433 ≠ gb432)); clear BK432; clear HB; have BK432 := n0_; have HB := n1_; have BK433 := n2_; have GW433 := n3_; have GE433 := n4_; have NB432_433 := n5_; have NB433_432 := n6_; clear n0_ n1_ n2_ n3_ n4_ n5_ n6_; clear hb hbox hg; have hnb14 := NB432_433.out; have hnc14 := NB433_432.out; have hcz15_0 : w13.cell? ⟨gb432, 0, none⟩ = some (.int .i64 a0_0) := (blk_cell BK432.out 0).trans rfl; have hcz15_1 : w13.cell? ⟨gb432, 1, none⟩ = some (.int .i64 a0_1) := (blk_cell BK432.out 1).trans rfl; have hcz15_2 : w13.cell? ⟨gb432, 2, none⟩ = some (.int .i64 a0_2) := (blk_cell BK432.out 2).trans rfl; have hcz15_3 : w13.cell? ⟨gb432, 3, none⟩ = some (.int .i64 a0_3) := (blk_cell BK432.out 3).trans rfl; have hfz15_0 := blk_frozen BK432.out 0; have hfz15_1 := blk_frozen BK432.out 1; have hfz15_2 := blk_frozen BK432.out 2; have hfz15_3 := blk_frozen BK432.out 3; have hcz16_0 : w13.cell? ⟨gb433, 0, none⟩ = some (.int .i64 a1_0) := (blk_cell BK433.out 0).trans rfl; have hcz16_1 : w13.cell? ⟨gb433, 1, none⟩ = some (.int .i64 a1_1) := (blk_cell BK433.out 1).trans rfl; have hcz16_2 : w13.cell? ⟨gb433, 2, none⟩ = some (.int .i64 a1_2) := (blk_cell BK433.out 2).trans rfl; have hcz16_3 : w13.cell? ⟨gb433, 3, none⟩ = some (.int .i64 a1_3) := (blk_cell BK433.out 3).trans rfl; have hfz16_0 := blk_frozen BK433.out 0; have hfz16_1 := blk_frozen BK433.out 1; have hfz16_2 := blk_frozen BK433.out 2; have hfz16_3 := blk_frozen BK433.out 3))
          go_ret
          exact ⟨by first | rfl | (simp [errW_none, errW_some] <;> rfl) | (simp [*, errW_none, errW_some] <;> rfl), by repeat (first | (with_reducible first | exact HB.out | apply below_alloc | apply pw_below_drewN | apply below_drew1 | refine below_set ?_ GE432.out | refine below_set ?_ GE433.out) | exact HB.out)⟩
      · rw [if_neg c5] at H
        have c5b0 : (a0_2 == a1_2) = false := beq_eq_false_iff_ne.mpr c5
        have c5b1 : (a0_2 != a1_2) = true := bne_iff_ne.mpr c5
        obtain rfl := Option.some.inj H
        simp only [Option.some.injEq, Prod.mk.injEq] at H
        obtain ⟨rfl⟩ := H
        go_enter Try.func75, Try.ntmps75
        go_wp2_with (first | ((with_reducible refine gate_dst (N := 2) rfl ?_); refine box_event ?hg (N := 2) ?hd (cs := #[.int .i64 a0_0, .int .i64 a0_1, .int .i64 a0_2, .int .i64 a0_3]) (t := 73) ?hr ?_; (case hd => rfl); (case hg => rfl); (case hr => first | (go_simp; done) | (go_simp; rfl)); intro gb432 hg w17 hbox hb; have n0_ := Aside0.mk (below_step (by repeat (first | (with_reducible first | exact HB.out | apply below_alloc | apply pw_below_drewN | apply below_drew1) | exact HB.out)) hb); have n1_ := Aside0.mk (hbox); have n2_ := Aside0.mk ((by rw [hg]; exact (below_size (by repeat (first | (with_reducible first | exact HB.out | apply below_alloc | apply pw_below_drewN | apply below_drew1) | exact HB.out))) : w.heap.size ≤ gb432)); have n3_ := Aside0.mk ((by rw [hg]; exact (below_size (by repeat (first | (with_reducible first | exact HB.out | apply below_alloc | apply pw_below_drewN | apply below_drew1) | exact HB.out))) : w.heap.size ≤ gb432)); clear HB; have HB := n0_; have BK432 := n1_; have GW432 := n2_; have GE432 := n3_; clear n0_ n1_ n2_ n3_; clear hb hbox hg) | ((with_reducible refine gate_dst (N := 3) rfl ?_); refine box_event ?hg (N := 3) ?hd (cs := #[.int .i64 a1_0, .int .i64 a1_1, .int .i64 a1_2, .int .i64 a1_3]) (t := 73) ?hr ?_; (case hd => rfl); (case hg => rfl); (case hr => first | (go_simp; done) | (go_simp; rfl)); intro gb433 hg w18 hbox hb; have n0_ := Aside0.mk (blk_below (g := gb432) (o := .cells #[.int .i64 a0_0, .int .i64 a0_1, .int .i64 a0_2, .int .i64 a0_3] 73 (0, 0)) (by (with_reducible repeat (first | refine blk_drewN ?_ _ | refine blk_drew ?_ | refine blk_alloc ?_ _)); exact BK432.out) hb); have n1_ := Aside0.mk (below_step (by repeat (first | (with_reducible first | exact HB.out | apply below_alloc | apply pw_below_drewN | apply below_drew1 | refine below_set ?_ GE432.out) | exact HB.out)) hb); have n2_ := Aside0.mk (hbox); have n3_ := Aside0.mk ((by rw [hg]; exact (below_size (by repeat (first | (with_reducible first | exact HB.out | apply below_alloc | apply pw_below_drewN | apply below_drew1 | refine below_set ?_ GE432.out) | exact HB.out))) : w.heap.size ≤ gb433)); have n4_ := Aside0.mk ((by rw [hg]; exact (below_size (by repeat (first | (with_reducible first | exact HB.out | apply below_alloc | apply pw_below_drewN | apply below_drew1 | refine below_set ?_ GE432.out) | exact HB.out))) : w.heap.size ≤ gb433)); have n5_ := Aside0.mk ((by rw [hg]; exact Nat.ne_of_lt (blk_lt (g := gb432) (o := .cells #[.int .i64 a0_0, .int .i64 a0_1, .int .i64 a0_2, .int .i64 a0_3] 73 (0, 0)) (by (with_reducible repeat (first | refine blk_drewN ?_ _ | refine blk_drew ?_ | refine blk_alloc ?_ _)); exact BK432.out)) : gb432 ≠ gb433)); have n6_ := Aside0.mk ((by rw [hg]; exact Nat.ne_of_gt (blk_lt (g := gb432) (o := .cells #[.int .i64 a0_0, .int .i64 a0_1, .int .i64 a0_2, .int .i64 a0_3] 73 (0, 0)) (by (with_reducible repeat (first | refine blk_drewN ?_ _ | refine blk_drew ?_ | refine blk_alloc ?_ _)); exact BK432.out)) : gb433 ≠ gb432)); clear BK432; clear HB; have BK432 := n0_; have HB := n1_; have BK433 := n2_; have GW433 := n3_; have GE433 := n4_; have NB432_433 := n5_; have NB433_432 := n6_; clear n0_ n1_ n2_ n3_ n4_ n5_ n6_; clear hb hbox hg; have hnb19 := NB432_433.out; have hnc19 := NB433_432.out; have hcz20_0 : w18.cell? ⟨gb432, 0, none⟩ = some (.int .i64 a0_0) := (blk_cell BK432.out 0).trans rfl; have hcz20_1 : w18.cell? ⟨gb432, 1, none⟩ = some (.int .i64 a0_1) := (blk_cell BK432.out 1).trans rfl; have hcz20_2 : w18.cell? ⟨gb432, 2, none⟩ = some (.int .i64 a0_2) := (blk_cell BK432.out 2).trans rfl; have hcz20_3 : w18.cell? ⟨gb432, 3, none⟩ = some (.int .i64 a0_3) := (blk_cell BK432.out 3).trans rfl; have hfz20_0 := blk_frozen BK432.out 0; have hfz20_1 := blk_frozen BK432.out 1; have hfz20_2 := blk_frozen BK432.out 2; have hfz20_3 := blk_frozen BK432.out 3; have hcz21_0 : w18.cell? ⟨gb433, 0, none⟩ = some (.int .i64 a1_0) := (blk_cell BK433.out 0).trans rfl; have hcz21_1 : w18.cell? ⟨gb433, 1, none⟩ = some (.int .i64 a1_1) := (blk_cell BK433.out 1).trans rfl; have hcz21_2 : w18.cell? ⟨gb433, 2, none⟩ = some (.int .i64 a1_2) := (blk_cell BK433.out 2).trans rfl; have hcz21_3 : w18.cell? ⟨gb433, 3, none⟩ = some (.int .i64 a1_3) := (blk_cell BK433.out 3).trans rfl; have hfz21_0 := blk_frozen BK433.out 0; have hfz21_1 := blk_frozen BK433.out 1; have hfz21_2 := blk_frozen BK433.out 2; have hfz21_3 := blk_frozen BK433.out 3))
        go_ret
        exact ⟨by first | rfl | (simp [errW_none, errW_some] <;> rfl) | (simp [*, errW_none, errW_some] <;> rfl), by repeat (first | (with_reducible first | exact HB.out | apply below_alloc | apply pw_below_drewN | apply below_drew1 | refine below_set ?_ GE432.out | refine below_set ?_ GE433.out) | exact HB.out)⟩
    · rw [if_neg c4] at H
      have c4b0 : (a0_1 == a1_1) = false := beq_eq_false_iff_ne.mpr c4
      have c4b1 : (a0_1 != a1_1) = true := bne_iff_ne.mpr c4
      obtain rfl := Option.some.inj H
      simp only [Option.some.injEq, Prod.mk.injEq] at H
      obtain ⟨rfl⟩ := H
      go_enter Try.func75, Try.ntmps75
      go_wp2_with (first | ((with_reducible refine gate_dst (N := 2) rfl ?_); refine box_event ?hg (N := 2) ?hd (cs := #[.int .i64 a0_0, .int .i64 a0_1, .int .i64 a0_2, .int .i64 a0_3]) (t := 73) ?hr ?_; (case hd => rfl); (case hg => rfl); (case hr => first | (go_simp; done) | (go_simp; rfl)); intro gb432 hg w22 hbox hb; have n0_ := Aside0.mk (below_step (by repeat (first | (with_reducible first | exact HB.out | apply below_alloc | apply pw_below_drewN | apply below_drew1) | exact HB.out)) hb); have n1_ := Aside0.mk (hbox); have n2_ := Aside0.mk ((by rw [hg]; exact (below_size (by repeat (first | (with_reducible first | exact HB.out | apply below_alloc | apply pw_below_drewN | apply below_drew1) | exact HB.out))) : w.heap.size ≤ gb432)); have n3_ := Aside0.mk ((by rw [hg]; exact (below_size (by repeat (first | (with_reducible first | exact HB.out | apply below_alloc | apply pw_below_drewN | apply below_drew1) | exact HB.out))) : w.heap.size ≤ gb432)); clear HB; have HB := n0_; have BK432 := n1_; have GW432 := n2_; have GE432 := n3_; clear n0_ n1_ n2_ n3_; clear hb hbox hg) | ((with_reducible refine gate_dst (N := 3) rfl ?_); refine box_event ?hg (N := 3) ?hd (cs := #[.int .i64 a1_0, .int .i64 a1_1, .int .i64 a1_2, .int .i64 a1_3]) (t := 73) ?hr ?_; (case hd => rfl); (case hg => rfl); (case hr => first | (go_simp; done) | (go_simp; rfl)); intro gb433 hg w23 hbox hb; have n0_ := Aside0.mk (blk_below (g := gb432) (o := .cells #[.int .i64 a0_0, .int .i64 a0_1, .int .i64 a0_2, .int .i64 a0_3] 73 (0, 0)) (by (with_reducible repeat (first | refine blk_drewN ?_ _ | refine blk_drew ?_ | refine blk_alloc ?_ _)); exact BK432.out) hb); have n1_ := Aside0.mk (below_step (by repeat (first | (with_reducible first | exact HB.out | apply below_alloc | apply pw_below_drewN | apply below_drew1 | refine below_set ?_ GE432.out) | exact HB.out)) hb); have n2_ := Aside0.mk (hbox); have n3_ := Aside0.mk ((by rw [hg]; exact (below_size (by repeat (first | (with_reducible first | exact HB.out | apply below_alloc | apply pw_below_drewN | apply below_drew1 | refine below_set ?_ GE432.out) | exact HB.out))) : w.heap.size ≤ gb433)); have n4_ := Aside0.mk ((by rw [hg]; exact (below_size (by repeat (first | (with_reducible first | exact HB.out | apply below_alloc | apply pw_below_drewN | apply below_drew1 | refine below_set ?_ GE432.out) | exact HB.out))) : w.heap.size ≤ gb433)); have n5_ := Aside0.mk ((by rw [hg]; exact Nat.ne_of_lt (blk_lt (g := gb432) (o := .cells #[.int .i64 a0_0, .int .i64 a0_1, .int .i64 a0_2, .int .i64 a0_3] 73 (0, 0)) (by (with_reducible repeat (first | refine blk_drewN ?_ _ | refine blk_drew ?_ | refine blk_alloc ?_ _)); exact BK432.out)) : gb432 ≠ gb433)); have n6_ := Aside0.mk ((by rw [hg]; exact Nat.ne_of_gt (blk_lt (g := gb432) (o := .cells #[.int .i64 a0_0, .int .i64 a0_1, .int .i64 a0_2, .int .i64 a0_3] 73 (0, 0)) (by (with_reducible repeat (first | refine blk_drewN ?_ _ | refine blk_drew ?_ | refine blk_alloc ?_ _)); exact BK432.out)) : gb433 ≠ gb432)); clear BK432; clear HB; have BK432 := n0_; have HB := n1_; have BK433 := n2_; have GW433 := n3_; have GE433 := n4_; have NB432_433 := n5_; have NB433_432 := n6_; clear n0_ n1_ n2_ n3_ n4_ n5_ n6_; clear hb hbox hg; have hnb24 := NB432_433.out; have hnc24 := NB433_432.out; have hcz25_0 : w23.cell? ⟨gb432, 0, none⟩ = some (.int .i64 a0_0) := (blk_cell BK432.out 0).trans rfl; have hcz25_1 : w23.cell? ⟨gb432, 1, none⟩ = some (.int .i64 a0_1) := (blk_cell BK432.out 1).trans rfl; have hcz25_2 : w23.cell? ⟨gb432, 2, none⟩ = some (.int .i64 a0_2) := (blk_cell BK432.out 2).trans rfl; have hcz25_3 : w23.cell? ⟨gb432, 3, none⟩ = some (.int .i64 a0_3) := (blk_cell BK432.out 3).trans rfl; have hfz25_0 := blk_frozen BK432.out 0; have hfz25_1 := blk_frozen BK432.out 1; have hfz25_2 := blk_frozen BK432.out 2; have hfz25_3 := blk_frozen BK432.out 3; have hcz26_0 : w23.cell? ⟨gb433, 0, none⟩ = some (.int .i64 a1_0) := (blk_cell BK433.out 0).trans rfl; have hcz26_1 : w23.cell? ⟨gb433, 1, none⟩ = some (.int .i64 a1_1) := (blk_cell BK433.out 1).trans rfl; have hcz26_2 : w23.cell? ⟨gb433, 2, none⟩ = some (.int .i64 a1_2) := (blk_cell BK433.out 2).trans rfl; have hcz26_3 : w23.cell? ⟨gb433, 3, none⟩ = some (.int .i64 a1_3) := (blk_cell BK433.out 3).trans rfl; have hfz26_0 := blk_frozen BK433.out 0; have hfz26_1 := blk_frozen BK433.out 1; have hfz26_2 := blk_frozen BK433.out 2; have hfz26_3 := blk_frozen BK433.out 3))
      go_ret
      exact ⟨by first | rfl | (simp [errW_none, errW_some] <;> rfl) | (simp [*, errW_none, errW_some] <;> rfl), by repeat (first | (with_reducible first | exact HB.out | apply below_alloc | apply pw_below_drewN | apply below_drew1 | refine below_set ?_ GE432.out | refine below_set ?_ GE433.out) | exact HB.out)⟩
  · rw [if_neg c3] at H
    have c3b0 : (a0_0 == a1_0) = false := beq_eq_false_iff_ne.mpr c3
    have c3b1 : (a0_0 != a1_0) = true := bne_iff_ne.mpr c3
    obtain rfl := Option.some.inj H
    simp only [Option.some.injEq, Prod.mk.injEq] at H
    obtain ⟨rfl⟩ := H
    go_enter Try.func75, Try.ntmps75
    go_wp2_with (first | ((with_reducible refine gate_dst (N := 2) rfl ?_); refine box_event ?hg (N := 2) ?hd (cs := #[.int .i64 a0_0, .int .i64 a0_1, .int .i64 a0_2, .int .i64 a0_3]) (t := 73) ?hr ?_; (case hd => rfl); (case hg => rfl); (case hr => first | (go_simp; done) | (go_simp; rfl)); intro gb432 hg w27 hbox hb; have n0_ := Aside0.mk (below_step (by repeat (first | (with_reducible first | exact HB.out | apply below_alloc | apply pw_below_drewN | apply below_drew1) | exact HB.out)) hb); have n1_ := Aside0.mk (hbox); have n2_ := Aside0.mk ((by rw [hg]; exact (below_size (by repeat (first | (with_reducible first | exact HB.out | apply below_alloc | apply pw_below_drewN | apply below_drew1) | exact HB.out))) : w.heap.size ≤ gb432)); have n3_ := Aside0.mk ((by rw [hg]; exact (below_size (by repeat (first | (with_reducible first | exact HB.out | apply below_alloc | apply pw_below_drewN | apply below_drew1) | exact HB.out))) : w.heap.size ≤ gb432)); clear HB; have HB := n0_; have BK432 := n1_; have GW432 := n2_; have GE432 := n3_; clear n0_ n1_ n2_ n3_; clear hb hbox hg) | ((with_reducible refine gate_dst (N := 3) rfl ?_); refine box_event ?hg (N := 3) ?hd (cs := #[.int .i64 a1_0, .int .i64 a1_1, .int .i64 a1_2, .int .i64 a1_3]) (t := 73) ?hr ?_; (case hd => rfl); (case hg => rfl); (case hr => first | (go_simp; done) | (go_simp; rfl)); intro gb433 hg w28 hbox hb; have n0_ := Aside0.mk (blk_below (g := gb432) (o := .cells #[.int .i64 a0_0, .int .i64 a0_1, .int .i64 a0_2, .int .i64 a0_3] 73 (0, 0)) (by (with_reducible repeat (first | refine blk_drewN ?_ _ | refine blk_drew ?_ | refine blk_alloc ?_ _)); exact BK432.out) hb); have n1_ := Aside0.mk (below_step (by repeat (first | (with_reducible first | exact HB.out | apply below_alloc | apply pw_below_drewN | apply below_drew1 | refine below_set ?_ GE432.out) | exact HB.out)) hb); have n2_ := Aside0.mk (hbox); have n3_ := Aside0.mk ((by rw [hg]; exact (below_size (by repeat (first | (with_reducible first | exact HB.out | apply below_alloc | apply pw_below_drewN | apply below_drew1 | refine below_set ?_ GE432.out) | exact HB.out))) : w.heap.size ≤ gb433)); have n4_ := Aside0.mk ((by rw [hg]; exact (below_size (by repeat (first | (with_reducible first | exact HB.out | apply below_alloc | apply pw_below_drewN | apply below_drew1 | refine below_set ?_ GE432.out) | exact HB.out))) : w.heap.size ≤ gb433)); have n5_ := Aside0.mk ((by rw [hg]; exact Nat.ne_of_lt (blk_lt (g := gb432) (o := .cells #[.int .i64 a0_0, .int .i64 a0_1, .int .i64 a0_2, .int .i64 a0_3] 73 (0, 0)) (by (with_reducible repeat (first | refine blk_drewN ?_ _ | refine blk_drew ?_ | refine blk_alloc ?_ _)); exact BK432.out)) : gb432 ≠ gb433)); have n6_ := Aside0.mk ((by rw [hg]; exact Nat.ne_of_gt (blk_lt (g := gb432) (o := .cells #[.int .i64 a0_0, .int .i64 a0_1, .int .i64 a0_2, .int .i64 a0_3] 73 (0, 0)) (by (with_reducible repeat (first | refine blk_drewN ?_ _ | refine blk_drew ?_ | refine blk_alloc ?_ _)); exact BK432.out)) : gb433 ≠ gb432)); clear BK432; clear HB; have BK432 := n0_; have HB := n1_; have BK433 := n2_; have GW433 := n3_; have GE433 := n4_; have NB432_433 := n5_; have NB433_432 := n6_; clear n0_ n1_ n2_ n3_ n4_ n5_ n6_; clear hb hbox hg; have hnb29 := NB432_433.out; have hnc29 := NB433_432.out; have hcz30_0 : w28.cell? ⟨gb432, 0, none⟩ = some (.int .i64 a0_0) := (blk_cell BK432.out 0).trans rfl; have hcz30_1 : w28.cell? ⟨gb432, 1, none⟩ = some (.int .i64 a0_1) := (blk_cell BK432.out 1).trans rfl; have hcz30_2 : w28.cell? ⟨gb432, 2, none⟩ = some (.int .i64 a0_2) := (blk_cell BK432.out 2).trans rfl; have hcz30_3 : w28.cell? ⟨gb432, 3, none⟩ = some (.int .i64 a0_3) := (blk_cell BK432.out 3).trans rfl; have hfz30_0 := blk_frozen BK432.out 0; have hfz30_1 := blk_frozen BK432.out 1; have hfz30_2 := blk_frozen BK432.out 2; have hfz30_3 := blk_frozen BK432.out 3; have hcz31_0 : w28.cell? ⟨gb433, 0, none⟩ = some (.int .i64 a1_0) := (blk_cell BK433.out 0).trans rfl; have hcz31_1 : w28.cell? ⟨gb433, 1, none⟩ = some (.int .i64 a1_1) := (blk_cell BK433.out 1).trans rfl; have hcz31_2 : w28.cell? ⟨gb433, 2, none⟩ = some (.int .i64 a1_2) := (blk_cell BK433.out 2).trans rfl; have hcz31_3 : w28.cell? ⟨gb433, 3, none⟩ = some (.int .i64 a1_3) := (blk_cell BK433.out 3).trans rfl; have hfz31_0 := blk_frozen BK433.out 0; have hfz31_1 := blk_frozen BK433.out 1; have hfz31_2 := blk_frozen BK433.out 2; have hfz31_3 := blk_frozen BK433.out 3))
    go_ret
    exact ⟨by first | rfl | (simp [errW_none, errW_some] <;> rfl) | (simp [*, errW_none, errW_some] <;> rfl), by repeat (first | (with_reducible first | exact HB.out | apply below_alloc | apply pw_below_drewN | apply below_drew1 | refine below_set ?_ GE432.out | refine below_set ?_ GE433.out) | exact HB.out)⟩
end Go.Proofs.Ytedodaifpekahaa.P

end
section

namespace Go.Proofs.Ytedodaifpekahaa.P
open Go.RowKit Go.Proofs.YtedodaifpekahaaW.PrintWords Go.Proofs.YtedodaifpekahaaW.PrintLast Go.Proofs.YtedodaifpekahaaW.PrintMore
attribute [local go_sem] max2_int min2_int max_two min_two max_three min_three max_four min_four
set_option linter.unusedVariables false
set_option linter.unusedSimpArgs false
def laws_eqCatchS.T6 : Bool × List (List Nat × List Nat) := (true, [([], []), ([], []), ([0, 1], [0, 1]), ([2], [2]), ([], []), ([], []), ([4, 5], [4, 5]), ([6], [6]), ([3, 7], [3, 7]), ([8], [8])])
def laws_eqCatchS.B6 : List Nat := [0, 0, 3, 7, 0, 0, 48, 112, 255, 511]
theorem laws_eqCatchS.tab6 : rtab .any (opsOf Try.f68 6) = laws_eqCatchS.T6 := by kernel_rfl
theorem laws_eqCatchS.bits6 : waitsOk laws_eqCatchS.T6.2 laws_eqCatchS.B6 = true := by kernel_rfl
set_option maxHeartbeats 8000000 in
set_option maxRecDepth 100000 in
theorem laws_eqCatchS.calls (k : Nat) (A0 : Option Addr) (c0 : Nat) (l0 : List (S73)) (A1 : Option Addr) (c1 : Nat) (l1 : List (S73)) (r : Bool) (w : World) (hr0 : Kd.C k73 w A0 l0.length l0) (hc0 : l0.length ≤ c0) (hr1 : Kd.C k73 w A1 l1.length l1) (hc1 : l1.length ≤ c1) (h : laws_eqCatchS.f k l0 l1 = some r) :
    Calls Try.prog 68 #[.slice A0 l0.length c0, .slice A1 l1.length c1] w fun e w' => e = .returned (.bool r) ∧ Below w.heap.size w w' := by
  have hu73 := Try.underlying73
  have HR0 := Aside0.mk hr0
  have HC0 := Aside0.mk hc0
  clear hr0 hc0
  have HR1 := Aside0.mk hr1
  have HC1 := Aside0.mk hc1
  clear hr1 hc1
  have HB := Aside0.mk (Below.refl w.heap.size w)
  have H : (if (l0.length : Int) = (l1.length : Int) then (laws_eqCatchS.l0 k l0 l1 0) else (some false)) = some r := h
  clear h
  by_cases c3 : (l0.length : Int) = (l1.length : Int)
  · rw [if_pos c3] at H
    have c3b0 : ((l0.length : Int) == (l1.length : Int)) = true := beq_iff_eq.mpr c3
    have c3b1 : ((l0.length : Int) != (l1.length : Int)) = false := bne_eq_false_iff_eq.mpr c3
    have c3b2 : (l0.length == l1.length) = true := by first | simpa using c3 | (simp at c3 ⊢; omega)
    clear c3
    have H' := Aside0.mk H
    clear H
    go_enter Try.func68, Try.ntmps68
    go_wp2
    go_loopg [5] k (fun kq v5 w' => ∃ (x5_1 : Int), v5 = .int .i64 x5_1 ∧ Aside0 (laws_eqCatchS.l0 kq l0 l1 x5_1 = some r) ∧ Aside0 (kq ≤ k) ∧ Aside0 (Below w.heap.size w w'))
    case atStart => exact ⟨(0), (by first | rfl | (simp; done) | (simp [*]; done)), H', ⟨Nat.le_refl _⟩, ⟨by repeat (first | (with_reducible first | exact HB.out | apply below_alloc | apply pw_below_drewN | apply below_drew1) | exact HB.out)⟩⟩
    case round =>
      clear H'
      try clear c1
      try clear p2
      try clear c3
      try clear c3b0
      try clear c3b1
      try clear c3b2
      obtain ⟨x5_1, rfl, HA, HK1, HB⟩ := hrel
      cases gk with
      | zero => exact absurd HA.out (by simp [laws_eqCatchS.l0])
      | succ k1 =>
        have H := HA.out
        clear HA
        simp only [laws_eqCatchS.l0] at H
        by_cases c4 : x5_1 < (l0.length : Int)
        · rw [if_pos c4] at H
          have c4b0 : decide (x5_1 < (l0.length : Int)) = true := decide_eq_true c4
          clear c4
          by_cases c5 : 0 ≤ x5_1
          · rw [if_pos c5] at H
            have c5b0 : decide (0 ≤ x5_1) = true := decide_eq_true c5
            clear c5
            by_cases c6 : x5_1 < (l1.length : Int)
            · rw [if_pos c6] at H
              have c6b0 : decide (x5_1 < (l1.length : Int)) = true := decide_eq_true c6
              clear c6
              replace H := Option.bind_eq_some_iff.mp H
              obtain ⟨t436, A70, H⟩ := H
              replace H : (if t436 = true then (laws_eqCatchS.l0 k1 l0 l1 (wrap64 (x5_1 + 1))) else (some false)) = some r := H
              have A7 := Aside0.mk A70
              clear A70
              by_cases c8 : t436 = true
              · subst c8
                have H1 : (laws_eqCatchS.l0 k1 l0 l1 (wrap64 (x5_1 + 1))) = some r := by rw [if_pos rfl] at H; exact H
                clear H
                have H := H1
                clear H1
                have H' := Aside0.mk H
                clear H
                try go_wp2
                have n0_ := Aside0.mk (below_drew1 HB.out)
                clear HB
                have HB := n0_
                clear n0_
                have p434 : 0 ≤ (x5_1 : Int) := of_decide_eq_true (by first | (with_reducible assumption) | assumption)
                have q434 : x5_1 < (l0.length : Int) := of_decide_eq_true (by first | (with_reducible assumption) | assumption)
                obtain ⟨ad434, e434, hx434_0, hx434_1, hx434_2, hx434_3⟩ := at_T73 HR0.out x5_1 p434 q434
                have hw434_3 := hx434_3
                have hw434_2 := hx434_2
                have hw434_1 := hx434_1
                have hw434_0 := hx434_0
                cases e434
                replace hx434_0 := (HB.out.cell (World.block_lt_of_cell? w _ hx434_0)).trans hx434_0
                replace hx434_1 := (HB.out.cell (World.block_lt_of_cell? w _ hx434_1)).trans hx434_1
                replace hx434_2 := (HB.out.cell (World.block_lt_of_cell? w _ hx434_2)).trans hx434_2
                replace hx434_3 := (HB.out.cell (World.block_lt_of_cell? w _ hx434_3)).trans hx434_3
                replace p434 := eq_true p434
                replace q434 := eq_true q434
                have p435 : 0 ≤ (x5_1 : Int) := of_decide_eq_true (by first | (with_reducible assumption) | assumption)
                have q435 : x5_1 < (l1.length : Int) := of_decide_eq_true (by first | (with_reducible assumption) | assumption)
                obtain ⟨ad435, e435, hx435_0, hx435_1, hx435_2, hx435_3⟩ := at_T73 HR1.out x5_1 p435 q435
                have hw435_3 := hx435_3
                have hw435_2 := hx435_2
                have hw435_1 := hx435_1
                have hw435_0 := hx435_0
                cases e435
                replace hx435_0 := (HB.out.cell (World.block_lt_of_cell? w _ hx435_0)).trans hx435_0
                replace hx435_1 := (HB.out.cell (World.block_lt_of_cell? w _ hx435_1)).trans hx435_1
                replace hx435_2 := (HB.out.cell (World.block_lt_of_cell? w _ hx435_2)).trans hx435_2
                replace hx435_3 := (HB.out.cell (World.block_lt_of_cell? w _ hx435_3)).trans hx435_3
                replace p435 := eq_true p435
                replace q435 := eq_true q435
                refine start_ (n := 10) (S := fun w' => w'.cell? (ad434.add ((x5_1).toNat * 4)) = some (.int .i64 ((rd_T73 l0 x5_1).f0)) ∧ w'.cell? ⟨(ad434.add ((x5_1).toNat * 4)).block, (ad434.add ((x5_1).toNat * 4)).off + 1, none⟩ = some (.int .i64 ((rd_T73 l0 x5_1).f1)) ∧ w'.cell? ⟨(ad434.add ((x5_1).toNat * 4)).block, (ad434.add ((x5_1).toNat * 4)).off + 2, none⟩ = some (.int .i64 ((rd_T73 l0 x5_1).f2)) ∧ w'.cell? ⟨(ad434.add ((x5_1).toNat * 4)).block, (ad434.add ((x5_1).toNat * 4)).off + 3, none⟩ = some (.int .i64 ((rd_T73 l0 x5_1).f3)) ∧ w'.cell? (ad435.add ((x5_1).toNat * 4)) = some (.int .i64 ((rd_T73 l1 x5_1).f0)) ∧ w'.cell? ⟨(ad435.add ((x5_1).toNat * 4)).block, (ad435.add ((x5_1).toNat * 4)).off + 1, none⟩ = some (.int .i64 ((rd_T73 l1 x5_1).f1)) ∧ w'.cell? ⟨(ad435.add ((x5_1).toNat * 4)).block, (ad435.add ((x5_1).toNat * 4)).off + 2, none⟩ = some (.int .i64 ((rd_T73 l1 x5_1).f2)) ∧ w'.cell? ⟨(ad435.add ((x5_1).toNat * 4)).block, (ad435.add ((x5_1).toNat * 4)).off + 3, none⟩ = some (.int .i64 ((rd_T73 l1 x5_1).f3))) (ds := []) #[false, false, false, false, false, false, false, false, false, false] (by kernel_rfl) rfl rfl ⟨((HB.out.cell (World.block_lt_of_cell? w _ hw434_0)).trans hw434_0), ((HB.out.cell (World.block_lt_of_cell? w _ hw434_1)).trans hw434_1), ((HB.out.cell (World.block_lt_of_cell? w _ hw434_2)).trans hw434_2), ((HB.out.cell (World.block_lt_of_cell? w _ hw434_3)).trans hw434_3), ((HB.out.cell (World.block_lt_of_cell? w _ hw435_0)).trans hw435_0), ((HB.out.cell (World.block_lt_of_cell? w _ hw435_1)).trans hw435_1), ((HB.out.cell (World.block_lt_of_cell? w _ hw435_2)).trans hw435_2), ((HB.out.cell (World.block_lt_of_cell? w _ hw435_3)).trans hw435_3)⟩ (fun hHeld => ?_); refine with_tabW laws_eqCatchS.tab6 laws_eqCatchS.bits6 (fun HT_ HW_ => ?_)
                generalize wr.drew = w9 at HB hx434_0 hx434_1 hx434_2 hx434_3 hx435_0 hx435_1 hx435_2 hx435_3 hHeld ⊢
                refine pure_ (i := 0) (N := some 17) (v := ?_) (a' := ?_) #[true, false, false, false, false, false, false, false, false, false] rfl rfl (any_of HT_.out (by kernel_rfl)) (fun _ _ _ h => h) (Or.inl ⟨by rfl, ?_⟩) ?_ ?_
                rotate_left
                · intro w'
                  go_simp
                  with_reducible rfl
                rotate_left
                · simp only [Act.put, List.setIfInBounds_toArray, List.set_cons_zero, List.set_cons_succ, i64_w, i32_w]
                  rfl
                refine pure_ (i := 1) (N := some 18) (v := ?_) (a' := ?_) #[true, true, false, false, false, false, false, false, false, false] rfl rfl (any_of HT_.out (by kernel_rfl)) (fun _ _ _ h => h) (Or.inl ⟨by rfl, ?_⟩) ?_ ?_
                rotate_left
                · intro w'
                  go_simp
                  with_reducible rfl
                rotate_left
                · simp only [Act.put, List.setIfInBounds_toArray, List.set_cons_zero, List.set_cons_succ, i64_w, i32_w]
                  rfl
                refine pure_ (i := 2) (N := some 19) (v := ?_) (a' := ?_) #[true, true, true, false, false, false, false, false, false, false] rfl rfl (any_of HT_.out (by kernel_rfl)) (fun _ _ _ h => h) (Or.inl ⟨by rfl, ?_⟩) ?_ ?_
                rotate_left
                · intro w'
                  go_simp
                  with_reducible rfl
                rotate_left
                · simp only [Act.put, List.setIfInBounds_toArray, List.set_cons_zero, List.set_cons_succ, i64_w, i32_w]
                  rfl
                refine pure_ (i := 4) (N := some 21) (v := ?_) (a' := ?_) #[true, true, true, false, true, false, false, false, false, false] rfl rfl (any_of HT_.out (by kernel_rfl)) (fun _ _ _ h => h) (Or.inl ⟨by rfl, ?_⟩) ?_ ?_
                rotate_left
                · intro w'
                  go_simp
                  with_reducible rfl
                rotate_left
                · simp only [Act.put, List.setIfInBounds_toArray, List.set_cons_zero, List.set_cons_succ, i64_w, i32_w]
                  rfl
                refine pure_ (i := 5) (N := some 22) (v := ?_) (a' := ?_) #[true, true, true, false, true, true, false, false, false, false] rfl rfl (any_of HT_.out (by kernel_rfl)) (fun _ _ _ h => h) (Or.inl ⟨by rfl, ?_⟩) ?_ ?_
                rotate_left
                · intro w'
                  go_simp
                  with_reducible rfl
                rotate_left
                · simp only [Act.put, List.setIfInBounds_toArray, List.set_cons_zero, List.set_cons_succ, i64_w, i32_w]
                  rfl
                refine pure_ (i := 6) (N := some 23) (v := ?_) (a' := ?_) #[true, true, true, false, true, true, true, false, false, false] rfl rfl (any_of HT_.out (by kernel_rfl)) (fun _ _ _ h => h) (Or.inl ⟨by rfl, ?_⟩) ?_ ?_
                rotate_left
                · intro w'
                  go_simp
                  with_reducible rfl
                rotate_left
                · simp only [Act.put, List.setIfInBounds_toArray, List.set_cons_zero, List.set_cons_succ, i64_w, i32_w]
                  rfl
                refine take_ (i := 3) (N := some 20) (v := ?_) (a' := ?_) #[true, true, true, true, true, true, true, false, false, false] rfl rfl (take_ofW HT_.out HW_.out (by kernel_rfl)) (fun _ _ _ h => h) (Or.inl ⟨by rfl, ?_⟩) hHeld ?_ ?_
                rotate_left
                · rintro w' ⟨s0, s1, s2, s3, s4, s5, s6, s7⟩
                  go_simp
                  with_reducible rfl
                rotate_left
                · simp only [Act.put, List.setIfInBounds_toArray, List.set_cons_zero, List.set_cons_succ, i64_w, i32_w]
                  rfl
                refine take_ (i := 7) (N := some 24) (v := ?_) (a' := ?_) #[true, true, true, true, true, true, true, true, false, false] rfl rfl (take_ofW HT_.out HW_.out (by kernel_rfl)) (fun _ _ _ h => h) (Or.inl ⟨by rfl, ?_⟩) hHeld ?_ ?_
                rotate_left
                · rintro w' ⟨s0, s1, s2, s3, s4, s5, s6, s7⟩
                  go_simp
                  with_reducible rfl
                rotate_left
                · simp only [Act.put, List.setIfInBounds_toArray, List.set_cons_zero, List.set_cons_succ, i64_w, i32_w]
                  rfl
                refine one_ (i := 8) (N := some 25) #[true, true, true, true, true, true, true, true, true, false] rfl rfl (one_of HT_.out (by kernel_rfl)) (by decide) (fun K hK => ?_)
                refine goes_ Try.func75 (by kernel_rfl) rfl #[.agg #[.int .i64 ((rd_T73 l0 x5_1).f0), .int .i64 ((rd_T73 l0 x5_1).f1), .int .i64 ((rd_T73 l0 x5_1).f2), .int .i64 ((rd_T73 l0 x5_1).f3)], .agg #[.int .i64 ((rd_T73 l1 x5_1).f0), .int .i64 ((rd_T73 l1 x5_1).f1), .int .i64 ((rd_T73 l1 x5_1).f2), .int .i64 ((rd_T73 l1 x5_1).f3)]] (by rfl) rfl rfl (by (try simp only [List.map_toArray, List.map_cons, List.map_nil]); first | done | rfl | (simp only [List.length_drop, List.length_take]; rfl)) ?_
                with_reducible refine (laws_eqCatch.calls ((rd_T73 l0 x5_1).f0) ((rd_T73 l0 x5_1).f1) ((rd_T73 l0 x5_1).f2) ((rd_T73 l0 x5_1).f3) ((rd_T73 l1 x5_1).f0) ((rd_T73 l1 x5_1).f1) ((rd_T73 l1 x5_1).f2) ((rd_T73 l1 x5_1).f3) true _ A7.out).mono ?_
                rintro e w10 ⟨rfl, hb⟩
                refine ⟨_, rfl, ?_⟩
                have n0_ := Aside0.mk (below_step (by repeat (first | (with_reducible first | exact HB.out | apply below_alloc | apply pw_below_drewN | apply below_drew1) | exact HB.out)) hb)
                clear HB
                have HB := n0_
                clear n0_
                (try clear hb)
                (try clear hb2)
                (try clear hk)
                (try clear hi)
                refine hK.out _ _ ⟨((HB.out.cell (World.block_lt_of_cell? w _ hw434_0)).trans hw434_0), ((HB.out.cell (World.block_lt_of_cell? w _ hw434_1)).trans hw434_1), ((HB.out.cell (World.block_lt_of_cell? w _ hw434_2)).trans hw434_2), ((HB.out.cell (World.block_lt_of_cell? w _ hw434_3)).trans hw434_3), ((HB.out.cell (World.block_lt_of_cell? w _ hw435_0)).trans hw435_0), ((HB.out.cell (World.block_lt_of_cell? w _ hw435_1)).trans hw435_1), ((HB.out.cell (World.block_lt_of_cell? w _ hw435_2)).trans hw435_2), ((HB.out.cell (World.block_lt_of_cell? w _ hw435_3)).trans hw435_3)⟩ (fun hHeld => ?_)
                clear hK K
                refine norm_ (a' := ?_) ?_ ?_
                rotate_left
                · show Act.put _ (some 25) _ = _
                  simp only [Act.put, List.setIfInBounds_toArray, List.set_cons_zero, List.set_cons_succ, i64_w, i32_w]
                  rfl
                refine pure_ (i := 9) (N := some 26) (v := ?_) (a' := ?_) #[true, true, true, true, true, true, true, true, true, true] rfl rfl (any_of HT_.out (by kernel_rfl)) (fun _ _ _ h => h) (Or.inl ⟨by rfl, ?_⟩) ?_ ?_
                rotate_left
                · intro w'
                  go_simp
                  with_reducible rfl
                rotate_left
                · simp only [Act.put, List.setIfInBounds_toArray, List.set_cons_zero, List.set_cons_succ, i64_w, i32_w]
                  rfl
                refine done_ (done_of HT_.out (by kernel_rfl)) ?_
                try go_wp2
                go_roundg k1
                case measure => have := HK1.out; omega
                case rel => exact ⟨(wrap64 (x5_1 + 1)), (by first | rfl | (simp; done) | (simp [*]; done)), H', ⟨by have := HK1.out; omega⟩, ⟨by repeat (first | (with_reducible first | exact HB.out | apply below_alloc | apply pw_below_drewN | apply below_drew1) | exact HB.out)⟩⟩
              · replace c8 := Bool.eq_false_iff.mpr c8
                subst c8
                have H1 : (some false) = some r := by rw [if_neg (show ¬ (false = true) by decide)] at H; exact H
                clear H
                have H := H1
                clear H1
                obtain rfl := Option.some.inj H
                simp only [Option.some.injEq, Prod.mk.injEq] at H
                obtain ⟨rfl⟩ := H
                try go_wp2
                have n0_ := Aside0.mk (below_drew1 HB.out)
                clear HB
                have HB := n0_
                clear n0_
                have p434 : 0 ≤ (x5_1 : Int) := of_decide_eq_true (by first | (with_reducible assumption) | assumption)
                have q434 : x5_1 < (l0.length : Int) := of_decide_eq_true (by first | (with_reducible assumption) | assumption)
                obtain ⟨ad434, e434, hx434_0, hx434_1, hx434_2, hx434_3⟩ := at_T73 HR0.out x5_1 p434 q434
                have hw434_3 := hx434_3
                have hw434_2 := hx434_2
                have hw434_1 := hx434_1
                have hw434_0 := hx434_0
                cases e434
                replace hx434_0 := (HB.out.cell (World.block_lt_of_cell? w _ hx434_0)).trans hx434_0
                replace hx434_1 := (HB.out.cell (World.block_lt_of_cell? w _ hx434_1)).trans hx434_1
                replace hx434_2 := (HB.out.cell (World.block_lt_of_cell? w _ hx434_2)).trans hx434_2
                replace hx434_3 := (HB.out.cell (World.block_lt_of_cell? w _ hx434_3)).trans hx434_3
                replace p434 := eq_true p434
                replace q434 := eq_true q434
                have p435 : 0 ≤ (x5_1 : Int) := of_decide_eq_true (by first | (with_reducible assumption) | assumption)
                have q435 : x5_1 < (l1.length : Int) := of_decide_eq_true (by first | (with_reducible assumption) | assumption)
                obtain ⟨ad435, e435, hx435_0, hx435_1, hx435_2, hx435_3⟩ := at_T73 HR1.out x5_1 p435 q435
                have hw435_3 := hx435_3
                have hw435_2 := hx435_2
                have hw435_1 := hx435_1
                have hw435_0 := hx435_0
                cases e435
                replace hx435_0 := (HB.out.cell (World.block_lt_of_cell? w _ hx435_0)).trans hx435_0
                replace hx435_1 := (HB.out.cell (World.block_lt_of_cell? w _ hx435_1)).trans hx435_1
                replace hx435_2 := (HB.out.cell (World.block_lt_of_cell? w _ hx435_2)).trans hx435_2
                replace hx435_3 := (HB.out.cell (World.block_lt_of_cell? w _ hx435_3)).trans hx435_3
                replace p435 := eq_true p435
                replace q435 := eq_true q435
                refine start_ (n := 10) (S := fun w' => w'.cell? (ad434.add ((x5_1).toNat * 4)) = some (.int .i64 ((rd_T73 l0 x5_1).f0)) ∧ w'.cell? ⟨(ad434.add ((x5_1).toNat * 4)).block, (ad434.add ((x5_1).toNat * 4)).off + 1, none⟩ = some (.int .i64 ((rd_T73 l0 x5_1).f1)) ∧ w'.cell? ⟨(ad434.add ((x5_1).toNat * 4)).block, (ad434.add ((x5_1).toNat * 4)).off + 2, none⟩ = some (.int .i64 ((rd_T73 l0 x5_1).f2)) ∧ w'.cell? ⟨(ad434.add ((x5_1).toNat * 4)).block, (ad434.add ((x5_1).toNat * 4)).off + 3, none⟩ = some (.int .i64 ((rd_T73 l0 x5_1).f3)) ∧ w'.cell? (ad435.add ((x5_1).toNat * 4)) = some (.int .i64 ((rd_T73 l1 x5_1).f0)) ∧ w'.cell? ⟨(ad435.add ((x5_1).toNat * 4)).block, (ad435.add ((x5_1).toNat * 4)).off + 1, none⟩ = some (.int .i64 ((rd_T73 l1 x5_1).f1)) ∧ w'.cell? ⟨(ad435.add ((x5_1).toNat * 4)).block, (ad435.add ((x5_1).toNat * 4)).off + 2, none⟩ = some (.int .i64 ((rd_T73 l1 x5_1).f2)) ∧ w'.cell? ⟨(ad435.add ((x5_1).toNat * 4)).block, (ad435.add ((x5_1).toNat * 4)).off + 3, none⟩ = some (.int .i64 ((rd_T73 l1 x5_1).f3))) (ds := []) #[false, false, false, false, false, false, false, false, false, false] (by kernel_rfl) rfl rfl ⟨((HB.out.cell (World.block_lt_of_cell? w _ hw434_0)).trans hw434_0), ((HB.out.cell (World.block_lt_of_cell? w _ hw434_1)).trans hw434_1), ((HB.out.cell (World.block_lt_of_cell? w _ hw434_2)).trans hw434_2), ((HB.out.cell (World.block_lt_of_cell? w _ hw434_3)).trans hw434_3), ((HB.out.cell (World.block_lt_of_cell? w _ hw435_0)).trans hw435_0), ((HB.out.cell (World.block_lt_of_cell? w _ hw435_1)).trans hw435_1), ((HB.out.cell (World.block_lt_of_cell? w _ hw435_2)).trans hw435_2), ((HB.out.cell (World.block_lt_of_cell? w _ hw435_3)).trans hw435_3)⟩ (fun hHeld => ?_); refine with_tabW laws_eqCatchS.tab6 laws_eqCatchS.bits6 (fun HT_ HW_ => ?_)
                generalize wr.drew = w11 at HB hx434_0 hx434_1 hx434_2 hx434_3 hx435_0 hx435_1 hx435_2 hx435_3 hHeld ⊢
                refine pure_ (i := 0) (N := some 17) (v := ?_) (a' := ?_) #[true, false, false, false, false, false, false, false, false, false] rfl rfl (any_of HT_.out (by kernel_rfl)) (fun _ _ _ h => h) (Or.inl ⟨by rfl, ?_⟩) ?_ ?_
                rotate_left
                · intro w'
                  go_simp
                  with_reducible rfl
                rotate_left
                · simp only [Act.put, List.setIfInBounds_toArray, List.set_cons_zero, List.set_cons_succ, i64_w, i32_w]
                  rfl
                refine pure_ (i := 1) (N := some 18) (v := ?_) (a' := ?_) #[true, true, false, false, false, false, false, false, false, false] rfl rfl (any_of HT_.out (by kernel_rfl)) (fun _ _ _ h => h) (Or.inl ⟨by rfl, ?_⟩) ?_ ?_
                rotate_left
                · intro w'
                  go_simp
                  with_reducible rfl
                rotate_left
                · simp only [Act.put, List.setIfInBounds_toArray, List.set_cons_zero, List.set_cons_succ, i64_w, i32_w]
                  rfl
                refine pure_ (i := 2) (N := some 19) (v := ?_) (a' := ?_) #[true, true, true, false, false, false, false, false, false, false] rfl rfl (any_of HT_.out (by kernel_rfl)) (fun _ _ _ h => h) (Or.inl ⟨by rfl, ?_⟩) ?_ ?_
                rotate_left
                · intro w'
                  go_simp
                  with_reducible rfl
                rotate_left
                · simp only [Act.put, List.setIfInBounds_toArray, List.set_cons_zero, List.set_cons_succ, i64_w, i32_w]
                  rfl
                refine pure_ (i := 4) (N := some 21) (v := ?_) (a' := ?_) #[true, true, true, false, true, false, false, false, false, false] rfl rfl (any_of HT_.out (by kernel_rfl)) (fun _ _ _ h => h) (Or.inl ⟨by rfl, ?_⟩) ?_ ?_
                rotate_left
                · intro w'
                  go_simp
                  with_reducible rfl
                rotate_left
                · simp only [Act.put, List.setIfInBounds_toArray, List.set_cons_zero, List.set_cons_succ, i64_w, i32_w]
                  rfl
                refine pure_ (i := 5) (N := some 22) (v := ?_) (a' := ?_) #[true, true, true, false, true, true, false, false, false, false] rfl rfl (any_of HT_.out (by kernel_rfl)) (fun _ _ _ h => h) (Or.inl ⟨by rfl, ?_⟩) ?_ ?_
                rotate_left
                · intro w'
                  go_simp
                  with_reducible rfl
                rotate_left
                · simp only [Act.put, List.setIfInBounds_toArray, List.set_cons_zero, List.set_cons_succ, i64_w, i32_w]
                  rfl
                refine pure_ (i := 6) (N := some 23) (v := ?_) (a' := ?_) #[true, true, true, false, true, true, true, false, false, false] rfl rfl (any_of HT_.out (by kernel_rfl)) (fun _ _ _ h => h) (Or.inl ⟨by rfl, ?_⟩) ?_ ?_
                rotate_left
                · intro w'
                  go_simp
                  with_reducible rfl
                rotate_left
                · simp only [Act.put, List.setIfInBounds_toArray, List.set_cons_zero, List.set_cons_succ, i64_w, i32_w]
                  rfl
                refine take_ (i := 3) (N := some 20) (v := ?_) (a' := ?_) #[true, true, true, true, true, true, true, false, false, false] rfl rfl (take_ofW HT_.out HW_.out (by kernel_rfl)) (fun _ _ _ h => h) (Or.inl ⟨by rfl, ?_⟩) hHeld ?_ ?_
                rotate_left
                · rintro w' ⟨s0, s1, s2, s3, s4, s5, s6, s7⟩
                  go_simp
                  with_reducible rfl
                rotate_left
                · simp only [Act.put, List.setIfInBounds_toArray, List.set_cons_zero, List.set_cons_succ, i64_w, i32_w]
                  rfl
                refine take_ (i := 7) (N := some 24) (v := ?_) (a' := ?_) #[true, true, true, true, true, true, true, true, false, false] rfl rfl (take_ofW HT_.out HW_.out (by kernel_rfl)) (fun _ _ _ h => h) (Or.inl ⟨by rfl, ?_⟩) hHeld ?_ ?_
                rotate_left
                · rintro w' ⟨s0, s1, s2, s3, s4, s5, s6, s7⟩
                  go_simp
                  with_reducible rfl
                rotate_left
                · simp only [Act.put, List.setIfInBounds_toArray, List.set_cons_zero, List.set_cons_succ, i64_w, i32_w]
                  rfl
                refine one_ (i := 8) (N := some 25) #[true, true, true, true, true, true, true, true, true, false] rfl rfl (one_of HT_.out (by kernel_rfl)) (by decide) (fun K hK => ?_)
                refine goes_ Try.func75 (by kernel_rfl) rfl #[.agg #[.int .i64 ((rd_T73 l0 x5_1).f0), .int .i64 ((rd_T73 l0 x5_1).f1), .int .i64 ((rd_T73 l0 x5_1).f2), .int .i64 ((rd_T73 l0 x5_1).f3)], .agg #[.int .i64 ((rd_T73 l1 x5_1).f0), .int .i64 ((rd_T73 l1 x5_1).f1), .int .i64 ((rd_T73 l1 x5_1).f2), .int .i64 ((rd_T73 l1 x5_1).f3)]] (by rfl) rfl rfl (by (try simp only [List.map_toArray, List.map_cons, List.map_nil]); first | done | rfl | (simp only [List.length_drop, List.length_take]; rfl)) ?_
                with_reducible refine (laws_eqCatch.calls ((rd_T73 l0 x5_1).f0) ((rd_T73 l0 x5_1).f1) ((rd_T73 l0 x5_1).f2) ((rd_T73 l0 x5_1).f3) ((rd_T73 l1 x5_1).f0) ((rd_T73 l1 x5_1).f1) ((rd_T73 l1 x5_1).f2) ((rd_T73 l1 x5_1).f3) false _ A7.out).mono ?_
                rintro e w12 ⟨rfl, hb⟩
                refine ⟨_, rfl, ?_⟩
                have n0_ := Aside0.mk (below_step (by repeat (first | (with_reducible first | exact HB.out | apply below_alloc | apply pw_below_drewN | apply below_drew1) | exact HB.out)) hb)
                clear HB
                have HB := n0_
                clear n0_
                (try clear hb)
                (try clear hb2)
                (try clear hk)
                (try clear hi)
                refine hK.out _ _ ⟨((HB.out.cell (World.block_lt_of_cell? w _ hw434_0)).trans hw434_0), ((HB.out.cell (World.block_lt_of_cell? w _ hw434_1)).trans hw434_1), ((HB.out.cell (World.block_lt_of_cell? w _ hw434_2)).trans hw434_2), ((HB.out.cell (World.block_lt_of_cell? w _ hw434_3)).trans hw434_3), ((HB.out.cell (World.block_lt_of_cell? w _ hw435_0)).trans hw435_0), ((HB.out.cell (World.block_lt_of_cell? w _ hw435_1)).trans hw435_1), ((HB.out.cell (World.block_lt_of_cell? w _ hw435_2)).trans hw435_2), ((HB.out.cell (World.block_lt_of_cell? w _ hw435_3)).trans hw435_3)⟩ (fun hHeld => ?_)
                clear hK K
                refine norm_ (a' := ?_) ?_ ?_
                rotate_left
                · show Act.put _ (some 25) _ = _
                  simp only [Act.put, List.setIfInBounds_toArray, List.set_cons_zero, List.set_cons_succ, i64_w, i32_w]
                  rfl
                refine pure_ (i := 9) (N := some 26) (v := ?_) (a' := ?_) #[true, true, true, true, true, true, true, true, true, true] rfl rfl (any_of HT_.out (by kernel_rfl)) (fun _ _ _ h => h) (Or.inl ⟨by rfl, ?_⟩) ?_ ?_
                rotate_left
                · intro w'
                  go_simp
                  with_reducible rfl
                rotate_left
                · simp only [Act.put, List.setIfInBounds_toArray, List.set_cons_zero, List.set_cons_succ, i64_w, i32_w]
                  rfl
                refine done_ (done_of HT_.out (by kernel_rfl)) ?_
                try go_wp2
                go_ret
                exact ⟨by first | rfl | (simp [errW_none, errW_some] <;> rfl) | (simp [*, errW_none, errW_some] <;> rfl), by repeat (first | (with_reducible first | exact HB.out | apply below_alloc | apply pw_below_drewN | apply below_drew1) | exact HB.out)⟩
            · rw [if_neg c6] at H
              exact absurd H (by simp)
          · rw [if_neg c5] at H
            exact absurd H (by simp)
        · rw [if_neg c4] at H
          have c4b0 : decide (x5_1 < (l0.length : Int)) = false := decide_eq_false c4
          clear c4
          obtain rfl := Option.some.inj H
          simp only [Option.some.injEq, Prod.mk.injEq] at H
          obtain ⟨rfl⟩ := H
          go_wp2
          go_ret
          exact ⟨by first | rfl | (simp [errW_none, errW_some] <;> rfl) | (simp [*, errW_none, errW_some] <;> rfl), by repeat (first | (with_reducible first | exact HB.out | apply below_alloc | apply pw_below_drewN | apply below_drew1) | exact HB.out)⟩
  · rw [if_neg c3] at H
    have c3b0 : ((l0.length : Int) == (l1.length : Int)) = false := beq_eq_false_iff_ne.mpr c3
    have c3b1 : ((l0.length : Int) != (l1.length : Int)) = true := bne_iff_ne.mpr c3
    have c3b2 : (l0.length == l1.length) = false := by first | simpa using c3 | (simp at c3 ⊢; omega)
    obtain rfl := Option.some.inj H
    simp only [Option.some.injEq, Prod.mk.injEq] at H
    obtain ⟨rfl⟩ := H
    go_enter Try.func68, Try.ntmps68
    go_wp2
    go_ret
    exact ⟨by first | rfl | (simp [errW_none, errW_some] <;> rfl) | (simp [*, errW_none, errW_some] <;> rfl), by repeat (first | (with_reducible first | exact HB.out | apply below_alloc | apply pw_below_drewN | apply below_drew1) | exact HB.out)⟩
end Go.Proofs.Ytedodaifpekahaa.P

end
section

namespace Go.Proofs.Ytedodaifpekahaa.P
open Go.RowKit Go.Proofs.YtedodaifpekahaaW.PrintWords Go.Proofs.YtedodaifpekahaaW.PrintLast Go.Proofs.YtedodaifpekahaaW.PrintMore
attribute [local go_sem] max2_int min2_int max_two min_two max_three min_three max_four min_four
set_option linter.unusedVariables false
set_option linter.unusedSimpArgs false
set_option maxHeartbeats 8000000 in
set_option maxRecDepth 100000 in
theorem laws_eqMethod.calls (k : Nat) (a0_0 : Int) (a0_1 : Int) (A0_2 : Option Addr) (c0_2 : Nat) (l0_2 : List Int) (a0_3 : Int) (a0_4 : Int) (A0_5 : Option Addr) (c0_5 : Nat) (l0_5 : List (S67)) (A0_6 : Option Addr) (c0_6 : Nat) (l0_6 : List (S70)) (A0_7 : Option Addr) (c0_7 : Nat) (l0_7 : List (S73)) (a1_0 : Int) (a1_1 : Int) (A1_2 : Option Addr) (c1_2 : Nat) (l1_2 : List Int) (a1_3 : Int) (a1_4 : Int) (A1_5 : Option Addr) (c1_5 : Nat) (l1_5 : List (S67)) (A1_6 : Option Addr) (c1_6 : Nat) (l1_6 : List (S70)) (A1_7 : Option Addr) (c1_7 : Nat) (l1_7 : List (S73)) (r : Bool) (w : World) (hr0_2 : Kd.C (Kd.int .i64) w A0_2 l0_2.length l0_2) (hc0_2 : l0_2.length ≤ c0_2) (hr0_5 : Kd.C k67 w A0_5 l0_5.length l0_5) (hc0_5 : l0_5.length ≤ c0_5) (hr0_6 : Kd.C k70 w A0_6 l0_6.length l0_6) (hc0_6 : l0_6.length ≤ c0_6) (hr0_7 : Kd.C k73 w A0_7 l0_7.length l0_7) (hc0_7 : l0_7.length ≤ c0_7) (hr1_2 : Kd.C (Kd.int .i64) w A1_2 l1_2.length l1_2) (hc1_2 : l1_2.length ≤ c1_2) (hr1_5 : Kd.C k67 w A1_5 l1_5.length l1_5) (hc1_5 : l1_5.length ≤ c1_5) (hr1_6 : Kd.C k70 w A1_6 l1_6.length l1_6) (hc1_6 : l1_6.length ≤ c1_6) (hr1_7 : Kd.C k73 w A1_7 l1_7.length l1_7) (hc1_7 : l1_7.length ≤ c1_7) (h : laws_eqMethod.f k a0_0 a0_1 l0_2 a0_3 a0_4 l0_5 l0_6 l0_7 a1_0 a1_1 l1_2 a1_3 a1_4 l1_5 l1_6 l1_7 = some r) :
    Calls Try.prog 49 #[.agg #[.int .i64 a0_0, .int .i64 a0_1, .slice A0_2 l0_2.length c0_2, .int .i64 a0_3, .int .i64 a0_4, .slice A0_5 l0_5.length c0_5, .slice A0_6 l0_6.length c0_6, .slice A0_7 l0_7.length c0_7], .agg #[.int .i64 a1_0, .int .i64 a1_1, .slice A1_2 l1_2.length c1_2, .int .i64 a1_3, .int .i64 a1_4, .slice A1_5 l1_5.length c1_5, .slice A1_6 l1_6.length c1_6, .slice A1_7 l1_7.length c1_7]] w fun e w' => e = .returned (.bool r) ∧ Below w.heap.size w w' := by
  have hu46 := Try.underlying46
  have HR0_2 := Aside0.mk hr0_2
  have HC0_2 := Aside0.mk hc0_2
  clear hr0_2 hc0_2
  have HR0_5 := Aside0.mk hr0_5
  have HC0_5 := Aside0.mk hc0_5
  clear hr0_5 hc0_5
  have HR0_6 := Aside0.mk hr0_6
  have HC0_6 := Aside0.mk hc0_6
  clear hr0_6 hc0_6
  have HR0_7 := Aside0.mk hr0_7
  have HC0_7 := Aside0.mk hc0_7
  clear hr0_7 hc0_7
  have HR1_2 := Aside0.mk hr1_2
  have HC1_2 := Aside0.mk hc1_2
  clear hr1_2 hc1_2
  have HR1_5 := Aside0.mk hr1_5
  have HC1_5 := Aside0.mk hc1_5
  clear hr1_5 hc1_5
  have HR1_6 := Aside0.mk hr1_6
  have HC1_6 := Aside0.mk hc1_6
  clear hr1_6 hc1_6
  have HR1_7 := Aside0.mk hr1_7
  have HC1_7 := Aside0.mk hc1_7
  clear hr1_7 hc1_7
  have HB := Aside0.mk (Below.refl w.heap.size w)
  have H : (if a0_0 = a1_0 then (if a0_1 = a1_1 then ((laws_eqIntS.f k l0_2 l1_2).bind fun t439 => (if t439 = true then (if a0_3 = a1_3 then (if a0_4 = a1_4 then ((laws_eqInsS.f k l0_5 l1_5).bind fun t440 => (if t440 = true then ((laws_eqShapeS.f k l0_6 l1_6).bind fun t441 => (if t441 = true then ((laws_eqCatchS.f k l0_7 l1_7).bind fun t442 => (if t442 = true then (some true) else (some false))) else (some false))) else (some false))) else (some false)) else (some false)) else (some false))) else (some false)) else (some false)) = some r := h
  clear h
  by_cases c3 : a0_0 = a1_0
  · rw [if_pos c3] at H
    have c3b0 : (a0_0 == a1_0) = true := beq_iff_eq.mpr c3
    have c3b1 : (a0_0 != a1_0) = false := bne_eq_false_iff_eq.mpr c3
    clear c3
    by_cases c4 : a0_1 = a1_1
    · rw [if_pos c4] at H
      have c4b0 : (a0_1 == a1_1) = true := beq_iff_eq.mpr c4
      have c4b1 : (a0_1 != a1_1) = false := bne_eq_false_iff_eq.mpr c4
      clear c4
      replace H := Option.bind_eq_some_iff.mp H
      obtain ⟨t439, A50, H⟩ := H
      replace H : (if t439 = true then (if a0_3 = a1_3 then (if a0_4 = a1_4 then ((laws_eqInsS.f k l0_5 l1_5).bind fun t440 => (if t440 = true then ((laws_eqShapeS.f k l0_6 l1_6).bind fun t441 => (if t441 = true then ((laws_eqCatchS.f k l0_7 l1_7).bind fun t442 => (if t442 = true then (some true) else (some false))) else (some false))) else (some false))) else (some false)) else (some false)) else (some false)) = some r := H
      have A5 := Aside0.mk A50
      clear A50
      by_cases c6 : t439 = true
      · subst c6
        have H1 : (if a0_3 = a1_3 then (if a0_4 = a1_4 then ((laws_eqInsS.f k l0_5 l1_5).bind fun t440 => (if t440 = true then ((laws_eqShapeS.f k l0_6 l1_6).bind fun t441 => (if t441 = true then ((laws_eqCatchS.f k l0_7 l1_7).bind fun t442 => (if t442 = true then (some true) else (some false))) else (some false))) else (some false))) else (some false)) else (some false)) = some r := by rw [if_pos rfl] at H; exact H
        clear H
        have H := H1
        clear H1
        by_cases c7 : a0_3 = a1_3
        · rw [if_pos c7] at H
          have c7b0 : (a0_3 == a1_3) = true := beq_iff_eq.mpr c7
          have c7b1 : (a0_3 != a1_3) = false := bne_eq_false_iff_eq.mpr c7
          clear c7
          by_cases c8 : a0_4 = a1_4
          · rw [if_pos c8] at H
            have c8b0 : (a0_4 == a1_4) = true := beq_iff_eq.mpr c8
            have c8b1 : (a0_4 != a1_4) = false := bne_eq_false_iff_eq.mpr c8
            clear c8
            replace H := Option.bind_eq_some_iff.mp H
            obtain ⟨t440, A90, H⟩ := H
            replace H : (if t440 = true then ((laws_eqShapeS.f k l0_6 l1_6).bind fun t441 => (if t441 = true then ((laws_eqCatchS.f k l0_7 l1_7).bind fun t442 => (if t442 = true then (some true) else (some false))) else (some false))) else (some false)) = some r := H
            have A9 := Aside0.mk A90
            clear A90
            by_cases c10 : t440 = true
            · subst c10
              have H1 : ((laws_eqShapeS.f k l0_6 l1_6).bind fun t441 => (if t441 = true then ((laws_eqCatchS.f k l0_7 l1_7).bind fun t442 => (if t442 = true then (some true) else (some false))) else (some false))) = some r := by rw [if_pos rfl] at H; exact H
              clear H
              have H := H1
              clear H1
              replace H := Option.bind_eq_some_iff.mp H
              obtain ⟨t441, A110, H⟩ := H
              replace H : (if t441 = true then ((laws_eqCatchS.f k l0_7 l1_7).bind fun t442 => (if t442 = true then (some true) else (some false))) else (some false)) = some r := H
              have A11 := Aside0.mk A110
              clear A110
              by_cases c12 : t441 = true
              · subst c12
                have H1 : ((laws_eqCatchS.f k l0_7 l1_7).bind fun t442 => (if t442 = true then (some true) else (some false))) = some r := by rw [if_pos rfl] at H; exact H
                clear H
                have H := H1
                clear H1
                replace H := Option.bind_eq_some_iff.mp H
                obtain ⟨t442, A130, H⟩ := H
                replace H : (if t442 = true then (some true) else (some false)) = some r := H
                have A13 := Aside0.mk A130
                clear A130
                by_cases c14 : t442 = true
                · subst c14
                  have H1 : (some true) = some r := by rw [if_pos rfl] at H; exact H
                  clear H
                  have H := H1
                  clear H1
                  obtain rfl := Option.some.inj H
                  simp only [Option.some.injEq, Prod.mk.injEq] at H
                  obtain ⟨rfl⟩ := H
                  go_enter Try.func49, Try.ntmps49
                  go_wp2_with (first | ((with_reducible refine gate_dst (N := 2) rfl ?_); refine box_event ?hg (N := 2) ?hd (cs := #[.int .i64 a0_0, .int .i64 a0_1, .slice A0_2 l0_2.length c0_2, .int .i64 a0_3, .int .i64 a0_4, .slice A0_5 l0_5.length c0_5, .slice A0_6 l0_6.length c0_6, .slice A0_7 l0_7.length c0_7]) (t := 46) ?hr ?_; (case hd => rfl); (case hg => rfl); (case hr => first | (go_simp; done) | (go_simp; rfl)); intro gb437 hg w15 hbox hb; have n0_ := Aside0.mk (below_step (by repeat (first | (with_reducible first | exact HB.out | apply below_alloc | apply pw_below_drewN | apply below_drew1) | exact HB.out)) hb); have n1_ := Aside0.mk (hbox); have n2_ := Aside0.mk ((by rw [hg]; exact (below_size (by repeat (first | (with_reducible first | exact HB.out | apply below_alloc | apply pw_below_drewN | apply below_drew1) | exact HB.out))) : w.heap.size ≤ gb437)); have n3_ := Aside0.mk ((by rw [hg]; exact (below_size (by repeat (first | (with_reducible first | exact HB.out | apply below_alloc | apply pw_below_drewN | apply below_drew1) | exact HB.out))) : w.heap.size ≤ gb437)); clear HB; have HB := n0_; have BK437 := n1_; have GW437 := n2_; have GE437 := n3_; clear n0_ n1_ n2_ n3_; clear hb hbox hg) | ((with_reducible refine gate_dst (N := 3) rfl ?_); refine box_event ?hg (N := 3) ?hd (cs := #[.int .i64 a1_0, .int .i64 a1_1, .slice A1_2 l1_2.length c1_2, .int .i64 a1_3, .int .i64 a1_4, .slice A1_5 l1_5.length c1_5, .slice A1_6 l1_6.length c1_6, .slice A1_7 l1_7.length c1_7]) (t := 46) ?hr ?_; (case hd => rfl); (case hg => rfl); (case hr => first | (go_simp; done) | (go_simp; rfl)); intro gb438 hg w16 hbox hb; have n0_ := Aside0.mk (blk_below (g := gb437) (o := .cells #[.int .i64 a0_0, .int .i64 a0_1, .slice A0_2 l0_2.length c0_2, .int .i64 a0_3, .int .i64 a0_4, .slice A0_5 l0_5.length c0_5, .slice A0_6 l0_6.length c0_6, .slice A0_7 l0_7.length c0_7] 46 (0, 0)) (by (with_reducible repeat (first | refine blk_drewN ?_ _ | refine blk_drew ?_ | refine blk_alloc ?_ _)); exact BK437.out) hb); have n1_ := Aside0.mk (below_step (by repeat (first | (with_reducible first | exact HB.out | apply below_alloc | apply pw_below_drewN | apply below_drew1 | refine below_set ?_ GE437.out) | exact HB.out)) hb); have n2_ := Aside0.mk (hbox); have n3_ := Aside0.mk ((by rw [hg]; exact (below_size (by repeat (first | (with_reducible first | exact HB.out | apply below_alloc | apply pw_below_drewN | apply below_drew1 | refine below_set ?_ GE437.out) | exact HB.out))) : w.heap.size ≤ gb438)); have n4_ := Aside0.mk ((by rw [hg]; exact (below_size (by repeat (first | (with_reducible first | exact HB.out | apply below_alloc | apply pw_below_drewN | apply below_drew1 | refine below_set ?_ GE437.out) | exact HB.out))) : w.heap.size ≤ gb438)); have n5_ := Aside0.mk ((by rw [hg]; exact Nat.ne_of_lt (blk_lt (g := gb437) (o := .cells #[.int .i64 a0_0, .int .i64 a0_1, .slice A0_2 l0_2.length c0_2, .int .i64 a0_3, .int .i64 a0_4, .slice A0_5 l0_5.length c0_5, .slice A0_6 l0_6.length c0_6, .slice A0_7 l0_7.length c0_7] 46 (0, 0)) (by (with_reducible repeat (first | refine blk_drewN ?_ _ | refine blk_drew ?_ | refine blk_alloc ?_ _)); exact BK437.out)) : gb437 ≠ gb438)); have n6_ := Aside0.mk ((by rw [hg]; exact Nat.ne_of_gt (blk_lt (g := gb437) (o := .cells #[.int .i64 a0_0, .int .i64 a0_1, .slice A0_2 l0_2.length c0_2, .int .i64 a0_3, .int .i64 a0_4, .slice A0_5 l0_5.length c0_5, .slice A0_6 l0_6.length c0_6, .slice A0_7 l0_7.length c0_7] 46 (0, 0)) (by (with_reducible repeat (first | refine blk_drewN ?_ _ | refine blk_drew ?_ | refine blk_alloc ?_ _)); exact BK437.out)) : gb438 ≠ gb437)); clear BK437; clear HB; have BK437 := n0_; have HB := n1_; have BK438 := n2_; have GW438 := n3_; have GE438 := n4_; have NB437_438 := n5_; have NB438_437 := n6_; clear n0_ n1_ n2_ n3_ n4_ n5_ n6_; clear hb hbox hg; have hnb17 := NB437_438.out; have hnc17 := NB438_437.out; have hcz18_0 : w16.cell? ⟨gb437, 0, none⟩ = some (.int .i64 a0_0) := (blk_cell BK437.out 0).trans rfl; have hcz18_1 : w16.cell? ⟨gb437, 1, none⟩ = some (.int .i64 a0_1) := (blk_cell BK437.out 1).trans rfl; have hcz18_2 : w16.cell? ⟨gb437, 2, none⟩ = some (.slice A0_2 l0_2.length c0_2) := (blk_cell BK437.out 2).trans rfl; have hcz18_3 : w16.cell? ⟨gb437, 3, none⟩ = some (.int .i64 a0_3) := (blk_cell BK437.out 3).trans rfl; have hcz18_4 : w16.cell? ⟨gb437, 4, none⟩ = some (.int .i64 a0_4) := (blk_cell BK437.out 4).trans rfl; have hcz18_5 : w16.cell? ⟨gb437, 5, none⟩ = some (.slice A0_5 l0_5.length c0_5) := (blk_cell BK437.out 5).trans rfl; have hcz18_6 : w16.cell? ⟨gb437, 6, none⟩ = some (.slice A0_6 l0_6.length c0_6) := (blk_cell BK437.out 6).trans rfl; have hcz18_7 : w16.cell? ⟨gb437, 7, none⟩ = some (.slice A0_7 l0_7.length c0_7) := (blk_cell BK437.out 7).trans rfl; have hfz18_0 := blk_frozen BK437.out 0; have hfz18_1 := blk_frozen BK437.out 1; have hfz18_2 := blk_frozen BK437.out 2; have hfz18_3 := blk_frozen BK437.out 3; have hfz18_4 := blk_frozen BK437.out 4; have hfz18_5 := blk_frozen BK437.out 5; have hfz18_6 := blk_frozen BK437.out 6; have hfz18_7 := blk_frozen BK437.out 7; have hcz19_0 : w16.cell? ⟨gb438, 0, none⟩ = some (.int .i64 a1_0) := (blk_cell BK438.out 0).trans rfl; have hcz19_1 : w16.cell? ⟨gb438, 1, none⟩ = some (.int .i64 a1_1) := (blk_cell BK438.out 1).trans rfl; have hcz19_2 : w16.cell? ⟨gb438, 2, none⟩ = some (.slice A1_2 l1_2.length c1_2) := (blk_cell BK438.out 2).trans rfl; have hcz19_3 : w16.cell? ⟨gb438, 3, none⟩ = some (.int .i64 a1_3) := (blk_cell BK438.out 3).trans rfl; have hcz19_4 : w16.cell? ⟨gb438, 4, none⟩ = some (.int .i64 a1_4) := (blk_cell BK438.out 4).trans rfl; have hcz19_5 : w16.cell? ⟨gb438, 5, none⟩ = some (.slice A1_5 l1_5.length c1_5) := (blk_cell BK438.out 5).trans rfl; have hcz19_6 : w16.cell? ⟨gb438, 6, none⟩ = some (.slice A1_6 l1_6.length c1_6) := (blk_cell BK438.out 6).trans rfl; have hcz19_7 : w16.cell? ⟨gb438, 7, none⟩ = some (.slice A1_7 l1_7.length c1_7) := (blk_cell BK438.out 7).trans rfl; have hfz19_0 := blk_frozen BK438.out 0; have hfz19_1 := blk_frozen BK438.out 1; have hfz19_2 := blk_frozen BK438.out 2; have hfz19_3 := blk_frozen BK438.out 3; have hfz19_4 := blk_frozen BK438.out 4; have hfz19_5 := blk_frozen BK438.out 5; have hfz19_6 := blk_frozen BK438.out 6; have hfz19_7 := blk_frozen BK438.out 7) | ((with_reducible refine gate_callee (f := 65) rfl ?_); refine goesL_ (some 19) rfl rfl Try.func65 (by kernel_rfl) rfl #[.slice A0_2 l0_2.length c0_2, .slice A1_2 l1_2.length c1_2] rfl (by (try simp only [List.map_toArray, List.map_cons, List.map_nil]); first | done | rfl | (simp only [List.length_drop, List.length_take]; rfl)) ?_; (with_reducible refine (laws_eqIntS.calls k _ _ l0_2 _ _ l1_2 true _ ?side1 ?side2 ?side3 ?side4 A5.out).mono ?_); (case side1 => repeat (first | exact (Kd.C_below HR0_2.out HB.out) | (with_reducible refine Kd.C_alloc ?_ _) | (with_reducible refine Kd.C_drewN ?_ _) | (with_reducible refine Kd.C_drew ?_))); (case side2 => exact HC0_2.out); (case side3 => repeat (first | exact (Kd.C_below HR1_2.out HB.out) | (with_reducible refine Kd.C_alloc ?_ _) | (with_reducible refine Kd.C_drewN ?_ _) | (with_reducible refine Kd.C_drew ?_))); (case side4 => exact HC1_2.out); rintro e w' ⟨rfl, ⟨nd, rfl⟩⟩; refine ⟨_, rfl, ?_⟩) | ((with_reducible refine gate_callee (f := 66) rfl ?_); refine goesL_ (some 35) rfl rfl Try.func66 (by kernel_rfl) rfl #[.slice A0_5 l0_5.length c0_5, .slice A1_5 l1_5.length c1_5] rfl (by (try simp only [List.map_toArray, List.map_cons, List.map_nil]); first | done | rfl | (simp only [List.length_drop, List.length_take]; rfl)) ?_; (with_reducible refine (laws_eqInsS.calls k _ _ l0_5 _ _ l1_5 true _ ?side1 ?side2 ?side3 ?side4 A9.out).mono ?_); (case side1 => repeat (first | exact (Kd.C_below HR0_5.out (by repeat (first | (with_reducible first | exact HB.out | apply below_alloc | apply pw_below_drewN | apply below_drew1 | refine below_set ?_ GE437.out | refine below_set ?_ GE438.out) | exact HB.out))) | (with_reducible refine Kd.C_alloc ?_ _) | (with_reducible refine Kd.C_drewN ?_ _) | (with_reducible refine Kd.C_drew ?_))); (case side2 => exact HC0_5.out); (case side3 => repeat (first | exact (Kd.C_below HR1_5.out (by repeat (first | (with_reducible first | exact HB.out | apply below_alloc | apply pw_below_drewN | apply below_drew1 | refine below_set ?_ GE437.out | refine below_set ?_ GE438.out) | exact HB.out))) | (with_reducible refine Kd.C_alloc ?_ _) | (with_reducible refine Kd.C_drewN ?_ _) | (with_reducible refine Kd.C_drew ?_))); (case side4 => exact HC1_5.out); rintro e w20 ⟨rfl, hb⟩; refine ⟨_, rfl, ?_⟩; have n0_ := Aside0.mk (blk_below (g := gb437) (o := .cells #[.int .i64 a0_0, .int .i64 a0_1, .slice A0_2 l0_2.length c0_2, .int .i64 a0_3, .int .i64 a0_4, .slice A0_5 l0_5.length c0_5, .slice A0_6 l0_6.length c0_6, .slice A0_7 l0_7.length c0_7] 46 (0, 0)) (by (with_reducible repeat (first | refine blk_drewN ?_ _ | refine blk_drew ?_ | refine blk_alloc ?_ _)); exact BK437.out) hb); have n1_ := Aside0.mk (blk_below (g := gb438) (o := .cells #[.int .i64 a1_0, .int .i64 a1_1, .slice A1_2 l1_2.length c1_2, .int .i64 a1_3, .int .i64 a1_4, .slice A1_5 l1_5.length c1_5, .slice A1_6 l1_6.length c1_6, .slice A1_7 l1_7.length c1_7] 46 (0, 0)) (by (with_reducible repeat (first | refine blk_drewN ?_ _ | refine blk_drew ?_ | refine blk_alloc ?_ _)); exact BK438.out) hb); have n2_ := Aside0.mk (below_step (by repeat (first | (with_reducible first | exact HB.out | apply below_alloc | apply pw_below_drewN | apply below_drew1 | refine below_set ?_ GE437.out | refine below_set ?_ GE438.out) | exact HB.out)) hb); clear BK437; clear BK438; clear HB; have BK437 := n0_; have BK438 := n1_; have HB := n2_; clear n0_ n1_ n2_; (try clear hb); (try clear hb2); (try clear hk); (try clear hi); have hcz21_0 : w20.cell? ⟨gb437, 0, none⟩ = some (.int .i64 a0_0) := (blk_cell BK437.out 0).trans rfl; have hcz21_1 : w20.cell? ⟨gb437, 1, none⟩ = some (.int .i64 a0_1) := (blk_cell BK437.out 1).trans rfl; have hcz21_2 : w20.cell? ⟨gb437, 2, none⟩ = some (.slice A0_2 l0_2.length c0_2) := (blk_cell BK437.out 2).trans rfl; have hcz21_3 : w20.cell? ⟨gb437, 3, none⟩ = some (.int .i64 a0_3) := (blk_cell BK437.out 3).trans rfl; have hcz21_4 : w20.cell? ⟨gb437, 4, none⟩ = some (.int .i64 a0_4) := (blk_cell BK437.out 4).trans rfl; have hcz21_5 : w20.cell? ⟨gb437, 5, none⟩ = some (.slice A0_5 l0_5.length c0_5) := (blk_cell BK437.out 5).trans rfl; have hcz21_6 : w20.cell? ⟨gb437, 6, none⟩ = some (.slice A0_6 l0_6.length c0_6) := (blk_cell BK437.out 6).trans rfl; have hcz21_7 : w20.cell? ⟨gb437, 7, none⟩ = some (.slice A0_7 l0_7.length c0_7) := (blk_cell BK437.out 7).trans rfl; have hfz21_0 := blk_frozen BK437.out 0; have hfz21_1 := blk_frozen BK437.out 1; have hfz21_2 := blk_frozen BK437.out 2; have hfz21_3 := blk_frozen BK437.out 3; have hfz21_4 := blk_frozen BK437.out 4; have hfz21_5 := blk_frozen BK437.out 5; have hfz21_6 := blk_frozen BK437.out 6; have hfz21_7 := blk_frozen BK437.out 7; have hcz22_0 : w20.cell? ⟨gb438, 0, none⟩ = some (.int .i64 a1_0) := (blk_cell BK438.out 0).trans rfl; have hcz22_1 : w20.cell? ⟨gb438, 1, none⟩ = some (.int .i64 a1_1) := (blk_cell BK438.out 1).trans rfl; have hcz22_2 : w20.cell? ⟨gb438, 2, none⟩ = some (.slice A1_2 l1_2.length c1_2) := (blk_cell BK438.out 2).trans rfl; have hcz22_3 : w20.cell? ⟨gb438, 3, none⟩ = some (.int .i64 a1_3) := (blk_cell BK438.out 3).trans rfl; have hcz22_4 : w20.cell? ⟨gb438, 4, none⟩ = some (.int .i64 a1_4) := (blk_cell BK438.out 4).trans rfl; have hcz22_5 : w20.cell? ⟨gb438, 5, none⟩ = some (.slice A1_5 l1_5.length c1_5) := (blk_cell BK438.out 5).trans rfl; have hcz22_6 : w20.cell? ⟨gb438, 6, none⟩ = some (.slice A1_6 l1_6.length c1_6) := (blk_cell BK438.out 6).trans rfl; have hcz22_7 : w20.cell? ⟨gb438, 7, none⟩ = some (.slice A1_7 l1_7.length c1_7) := (blk_cell BK438.out 7).trans rfl; have hfz22_0 := blk_frozen BK438.out 0; have hfz22_1 := blk_frozen BK438.out 1; have hfz22_2 := blk_frozen BK438.out 2; have hfz22_3 := blk_frozen BK438.out 3; have hfz22_4 := blk_frozen BK438.out 4; have hfz22_5 := blk_frozen BK438.out 5; have hfz22_6 := blk_frozen BK438.out 6; have hfz22_7 := blk_frozen BK438.out 7) | ((with_reducible refine gate_callee (f := 67) rfl ?_); refine goesL_ (some 41) rfl rfl Try.func67 (by kernel_rfl) rfl #[.slice A0_6 l0_6.length c0_6, .slice A1_6 l1_6.length c1_6] rfl (by (try simp only [List.map_toArray, List.map_cons, List.map_nil]); first | done | rfl | (simp only [List.length_drop, List.length_take]; rfl)) ?_; (with_reducible refine (laws_eqShapeS.calls k _ _ l0_6 _ _ l1_6 true _ ?side1 ?side2 ?side3 ?side4 A11.out).mono ?_); (case side1 => repeat (first | exact (Kd.C_below HR0_6.out HB.out) | (with_reducible refine Kd.C_alloc ?_ _) | (with_reducible refine Kd.C_drewN ?_ _) | (with_reducible refine Kd.C_drew ?_))); (case side2 => exact HC0_6.out); (case side3 => repeat (first | exact (Kd.C_below HR1_6.out HB.out) | (with_reducible refine Kd.C_alloc ?_ _) | (with_reducible refine Kd.C_drewN ?_ _) | (with_reducible refine Kd.C_drew ?_))); (case side4 => exact HC1_6.out); rintro e w23 ⟨rfl, hb⟩; refine ⟨_, rfl, ?_⟩; have n0_ := Aside0.mk (blk_below (g := gb437) (o := .cells #[.int .i64 a0_0, .int .i64 a0_1, .slice A0_2 l0_2.length c0_2, .int .i64 a0_3, .int .i64 a0_4, .slice A0_5 l0_5.length c0_5, .slice A0_6 l0_6.length c0_6, .slice A0_7 l0_7.length c0_7] 46 (0, 0)) (by (with_reducible repeat (first | refine blk_drewN ?_ _ | refine blk_drew ?_ | refine blk_alloc ?_ _)); exact BK437.out) hb); have n1_ := Aside0.mk (blk_below (g := gb438) (o := .cells #[.int .i64 a1_0, .int .i64 a1_1, .slice A1_2 l1_2.length c1_2, .int .i64 a1_3, .int .i64 a1_4, .slice A1_5 l1_5.length c1_5, .slice A1_6 l1_6.length c1_6, .slice A1_7 l1_7.length c1_7] 46 (0, 0)) (by (with_reducible repeat (first | refine blk_drewN ?_ _ | refine blk_drew ?_ | refine blk_alloc ?_ _)); exact BK438.out) hb); have n2_ := Aside0.mk (below_step (by repeat (first | (with_reducible first | exact HB.out | apply below_alloc | apply pw_below_drewN | apply below_drew1 | refine below_set ?_ GE437.out | refine below_set ?_ GE438.out) | exact HB.out)) hb); clear BK437; clear BK438; clear HB; have BK437 := n0_; have BK438 := n1_; have HB := n2_; clear n0_ n1_ n2_; (try clear hb); (try clear hb2); (try clear hk); (try clear hi); have hcz24_0 : w23.cell? ⟨gb437, 0, none⟩ = some (.int .i64 a0_0) := (blk_cell BK437.out 0).trans rfl; have hcz24_1 : w23.cell? ⟨gb437, 1, none⟩ = some (.int .i64 a0_1) := (blk_cell BK437.out 1).trans rfl; have hcz24_2 : w23.cell? ⟨gb437, 2, none⟩ = some (.slice A0_2 l0_2.length c0_2) := (blk_cell BK437.out 2).trans rfl; have hcz24_3 : w23.cell? ⟨gb437, 3, none⟩ = some (.int .i64 a0_3) := (blk_cell BK437.out 3).trans rfl; have hcz24_4 : w23.cell? ⟨gb437, 4, none⟩ = some (.int .i64 a0_4) := (blk_cell BK437.out 4).trans rfl; have hcz24_5 : w23.cell? ⟨gb437, 5, none⟩ = some (.slice A0_5 l0_5.length c0_5) := (blk_cell BK437.out 5).trans rfl; have hcz24_6 : w23.cell? ⟨gb437, 6, none⟩ = some (.slice A0_6 l0_6.length c0_6) := (blk_cell BK437.out 6).trans rfl; have hcz24_7 : w23.cell? ⟨gb437, 7, none⟩ = some (.slice A0_7 l0_7.length c0_7) := (blk_cell BK437.out 7).trans rfl; have hfz24_0 := blk_frozen BK437.out 0; have hfz24_1 := blk_frozen BK437.out 1; have hfz24_2 := blk_frozen BK437.out 2; have hfz24_3 := blk_frozen BK437.out 3; have hfz24_4 := blk_frozen BK437.out 4; have hfz24_5 := blk_frozen BK437.out 5; have hfz24_6 := blk_frozen BK437.out 6; have hfz24_7 := blk_frozen BK437.out 7; have hcz25_0 : w23.cell? ⟨gb438, 0, none⟩ = some (.int .i64 a1_0) := (blk_cell BK438.out 0).trans rfl; have hcz25_1 : w23.cell? ⟨gb438, 1, none⟩ = some (.int .i64 a1_1) := (blk_cell BK438.out 1).trans rfl; have hcz25_2 : w23.cell? ⟨gb438, 2, none⟩ = some (.slice A1_2 l1_2.length c1_2) := (blk_cell BK438.out 2).trans rfl; have hcz25_3 : w23.cell? ⟨gb438, 3, none⟩ = some (.int .i64 a1_3) := (blk_cell BK438.out 3).trans rfl; have hcz25_4 : w23.cell? ⟨gb438, 4, none⟩ = some (.int .i64 a1_4) := (blk_cell BK438.out 4).trans rfl; have hcz25_5 : w23.cell? ⟨gb438, 5, none⟩ = some (.slice A1_5 l1_5.length c1_5) := (blk_cell BK438.out 5).trans rfl; have hcz25_6 : w23.cell? ⟨gb438, 6, none⟩ = some (.slice A1_6 l1_6.length c1_6) := (blk_cell BK438.out 6).trans rfl; have hcz25_7 : w23.cell? ⟨gb438, 7, none⟩ = some (.slice A1_7 l1_7.length c1_7) := (blk_cell BK438.out 7).trans rfl; have hfz25_0 := blk_frozen BK438.out 0; have hfz25_1 := blk_frozen BK438.out 1; have hfz25_2 := blk_frozen BK438.out 2; have hfz25_3 := blk_frozen BK438.out 3; have hfz25_4 := blk_frozen BK438.out 4; have hfz25_5 := blk_frozen BK438.out 5; have hfz25_6 := blk_frozen BK438.out 6; have hfz25_7 := blk_frozen BK438.out 7) | ((with_reducible refine gate_callee (f := 68) rfl ?_); refine goesL_ (some 47) rfl rfl Try.func68 (by kernel_rfl) rfl #[.slice A0_7 l0_7.length c0_7, .slice A1_7 l1_7.length c1_7] rfl (by (try simp only [List.map_toArray, List.map_cons, List.map_nil]); first | done | rfl | (simp only [List.length_drop, List.length_take]; rfl)) ?_; (with_reducible refine (laws_eqCatchS.calls k _ _ l0_7 _ _ l1_7 true _ ?side1 ?side2 ?side3 ?side4 A13.out).mono ?_); (case side1 => repeat (first | exact (Kd.C_below HR0_7.out HB.out) | (with_reducible refine Kd.C_alloc ?_ _) | (with_reducible refine Kd.C_drewN ?_ _) | (with_reducible refine Kd.C_drew ?_))); (case side2 => exact HC0_7.out); (case side3 => repeat (first | exact (Kd.C_below HR1_7.out HB.out) | (with_reducible refine Kd.C_alloc ?_ _) | (with_reducible refine Kd.C_drewN ?_ _) | (with_reducible refine Kd.C_drew ?_))); (case side4 => exact HC1_7.out); rintro e w26 ⟨rfl, hb⟩; refine ⟨_, rfl, ?_⟩; have n0_ := Aside0.mk (blk_below (g := gb437) (o := .cells #[.int .i64 a0_0, .int .i64 a0_1, .slice A0_2 l0_2.length c0_2, .int .i64 a0_3, .int .i64 a0_4, .slice A0_5 l0_5.length c0_5, .slice A0_6 l0_6.length c0_6, .slice A0_7 l0_7.length c0_7] 46 (0, 0)) (by (with_reducible repeat (first | refine blk_drewN ?_ _ | refine blk_drew ?_ | refine blk_alloc ?_ _)); exact BK437.out) hb); have n1_ := Aside0.mk (blk_below (g := gb438) (o := .cells #[.int .i64 a1_0, .int .i64 a1_1, .slice A1_2 l1_2.length c1_2, .int .i64 a1_3, .int .i64 a1_4, .slice A1_5 l1_5.length c1_5, .slice A1_6 l1_6.length c1_6, .slice A1_7 l1_7.length c1_7] 46 (0, 0)) (by (with_reducible repeat (first | refine blk_drewN ?_ _ | refine blk_drew ?_ | refine blk_alloc ?_ _)); exact BK438.out) hb); have n2_ := Aside0.mk (below_step (by repeat (first | (with_reducible first | exact HB.out | apply below_alloc | apply pw_below_drewN | apply below_drew1 | refine below_set ?_ GE437.out | refine below_set ?_ GE438.out) | exact HB.out)) hb); clear BK437; clear BK438; clear HB; have BK437 := n0_; have BK438 := n1_; have HB := n2_; clear n0_ n1_ n2_; (try clear hb); (try clear hb2); (try clear hk); (try clear hi)))
                  go_ret
                  exact ⟨by first | rfl | (simp [errW_none, errW_some] <;> rfl) | (simp [*, errW_none, errW_some] <;> rfl), by repeat (first | (with_reducible first | exact HB.out | apply below_alloc | apply pw_below_drewN | apply below_drew1 | refine below_set ?_ GE437.out | refine below_set ?_ GE438.out) | exact HB.out)⟩
                · replace c14 := Bool.eq_false_iff.mpr c14
                  subst c14
                  have H1 : (some false) = some r := by rw [if_neg (show ¬ (false = true) by decide)] at H; exact H
                  clear H
                  have H := H1
                  clear H1
                  obtain rfl := Option.some.inj H
                  simp only [Option.some.injEq, Prod.mk.injEq] at H
                  obtain ⟨rfl⟩ := H
                  go_enter Try.func49, Try.ntmps49
                  go_wp2_with (first | ((with_reducible refine gate_dst (N := 2) rfl ?_); refine box_event ?hg (N := 2) ?hd (cs := #[.int .i64 a0_0, .int .i64 a0_1, .slice A0_2 l0_2.length c0_2, .int .i64 a0_3, .int .i64 a0_4, .slice A0_5 l0_5.length c0_5, .slice A0_6 l0_6.length c0_6, .slice A0_7 l0_7.length c0_7]) (t := 46) ?hr ?_; (case hd => rfl); (case hg => rfl); (case hr => first | (go_simp; done) | (go_simp; rfl)); intro gb437 hg w27 hbox hb; have n0_ := Aside0.mk (below_step (by repeat (first | (with_reducible first | exact HB.out | apply below_alloc | apply pw_below_drewN | apply below_drew1) | exact HB.out)) hb); have n1_ := Aside0.mk (hbox); have n2_ := Aside0.mk ((by rw [hg]; exact (below_size (by repeat (first | (with_reducible first | exact HB.out | apply below_alloc | apply pw_below_drewN | apply below_drew1) | exact HB.out))) : w.heap.size ≤ gb437)); have n3_ := Aside0.mk ((by rw [hg]; exact (below_size (by repeat (first | (with_reducible first | exact HB.out | apply below_alloc | apply pw_below_drewN | apply below_drew1) | exact HB.out))) : w.heap.size ≤ gb437)); clear HB; have HB := n0_; have BK437 := n1_; have GW437 := n2_; have GE437 := n3_; clear n0_ n1_ n2_ n3_; clear hb hbox hg) | ((with_reducible refine gate_dst (N := 3) rfl ?_); refine box_event ?hg (N := 3) ?hd (cs := #[.int .i64 a1_0, .int .i64 a1_1, .slice A1_2 l1_2.length c1_2, .int .i64 a1_3, .int .i64 a1_4, .slice A1_5 l1_5.length c1_5, .slice A1_6 l1_6.length c1_6, .slice A1_7 l1_7.length c1_7]) (t := 46) ?hr ?_; (case hd => rfl); (case hg => rfl); (case hr => first | (go_simp; done) | (go_simp; rfl)); intro gb438 hg w28 hbox hb; have n0_ := Aside0.mk (blk_below (g := gb437) (o := .cells #[.int .i64 a0_0, .int .i64 a0_1, .slice A0_2 l0_2.length c0_2, .int .i64 a0_3, .int .i64 a0_4, .slice A0_5 l0_5.length c0_5, .slice A0_6 l0_6.length c0_6, .slice A0_7 l0_7.length c0_7] 46 (0, 0)) (by (with_reducible repeat (first | refine blk_drewN ?_ _ | refine blk_drew ?_ | refine blk_alloc ?_ _)); exact BK437.out) hb); have n1_ := Aside0.mk (below_step (by repeat (first | (with_reducible first | exact HB.out | apply below_alloc | apply pw_below_drewN | apply below_drew1 | refine below_set ?_ GE437.out) | exact HB.out)) hb); have n2_ := Aside0.mk (hbox); have n3_ := Aside0.mk ((by rw [hg]; exact (below_size (by repeat (first | (with_reducible first | exact HB.out | apply below_alloc | apply pw_below_drewN | apply below_drew1 | refine below_set ?_ GE437.out) | exact HB.out))) : w.heap.size ≤ gb438)); have n4_ := Aside0.mk ((by rw [hg]; exact (below_size (by repeat (first | (with_reducible first | exact HB.out | apply below_alloc | apply pw_below_drewN | apply below_drew1 | refine below_set ?_ GE437.out) | exact HB.out))) : w.heap.size ≤ gb438)); have n5_ := Aside0.mk ((by rw [hg]; exact Nat.ne_of_lt (blk_lt (g := gb437) (o := .cells #[.int .i64 a0_0, .int .i64 a0_1, .slice A0_2 l0_2.length c0_2, .int .i64 a0_3, .int .i64 a0_4, .slice A0_5 l0_5.length c0_5, .slice A0_6 l0_6.length c0_6, .slice A0_7 l0_7.length c0_7] 46 (0, 0)) (by (with_reducible repeat (first | refine blk_drewN ?_ _ | refine blk_drew ?_ | refine blk_alloc ?_ _)); exact BK437.out)) : gb437 ≠ gb438)); have n6_ := Aside0.mk ((by rw [hg]; exact Nat.ne_of_gt (blk_lt (g := gb437) (o := .cells #[.int .i64 a0_0, .int .i64 a0_1, .slice A0_2 l0_2.length c0_2, .int .i64 a0_3, .int .i64 a0_4, .slice A0_5 l0_5.length c0_5, .slice A0_6 l0_6.length c0_6, .slice A0_7 l0_7.length c0_7] 46 (0, 0)) (by (with_reducible repeat (first | refine blk_drewN ?_ _ | refine blk_drew ?_ | refine blk_alloc ?_ _)); exact BK437.out)) : gb438 ≠ gb437)); clear BK437; clear HB; have BK437 := n0_; have HB := n1_; have BK438 := n2_; have GW438 := n3_; have GE438 := n4_; have NB437_438 := n5_; have NB438_437 := n6_; clear n0_ n1_ n2_ n3_ n4_ n5_ n6_; clear hb hbox hg; have hnb29 := NB437_438.out; have hnc29 := NB438_437.out; have hcz30_0 : w28.cell? ⟨gb437, 0, none⟩ = some (.int .i64 a0_0) := (blk_cell BK437.out 0).trans rfl; have hcz30_1 : w28.cell? ⟨gb437, 1, none⟩ = some (.int .i64 a0_1) := (blk_cell BK437.out 1).trans rfl; have hcz30_2 : w28.cell? ⟨gb437, 2, none⟩ = some (.slice A0_2 l0_2.length c0_2) := (blk_cell BK437.out 2).trans rfl; have hcz30_3 : w28.cell? ⟨gb437, 3, none⟩ = some (.int .i64 a0_3) := (blk_cell BK437.out 3).trans rfl; have hcz30_4 : w28.cell? ⟨gb437, 4, none⟩ = some (.int .i64 a0_4) := (blk_cell BK437.out 4).trans rfl; have hcz30_5 : w28.cell? ⟨gb437, 5, none⟩ = some (.slice A0_5 l0_5.length c0_5) := (blk_cell BK437.out 5).trans rfl; have hcz30_6 : w28.cell? ⟨gb437, 6, none⟩ = some (.slice A0_6 l0_6.length c0_6) := (blk_cell BK437.out 6).trans rfl; have hcz30_7 : w28.cell? ⟨gb437, 7, none⟩ = some (.slice A0_7 l0_7.length c0_7) := (blk_cell BK437.out 7).trans rfl; have hfz30_0 := blk_frozen BK437.out 0; have hfz30_1 := blk_frozen BK437.out 1; have hfz30_2 := blk_frozen BK437.out 2; have hfz30_3 := blk_frozen BK437.out 3; have hfz30_4 := blk_frozen BK437.out 4; have hfz30_5 := blk_frozen BK437.out 5; have hfz30_6 := blk_frozen BK437.out 6; have hfz30_7 := blk_frozen BK437.out 7; have hcz31_0 : w28.cell? ⟨gb438, 0, none⟩ = some (.int .i64 a1_0) := (blk_cell BK438.out 0).trans rfl; have hcz31_1 : w28.cell? ⟨gb438, 1, none⟩ = some (.int .i64 a1_1) := (blk_cell BK438.out 1).trans rfl; have hcz31_2 : w28.cell? ⟨gb438, 2, none⟩ = some (.slice A1_2 l1_2.length c1_2) := (blk_cell BK438.out 2).trans rfl; have hcz31_3 : w28.cell? ⟨gb438, 3, none⟩ = some (.int .i64 a1_3) := (blk_cell BK438.out 3).trans rfl; have hcz31_4 : w28.cell? ⟨gb438, 4, none⟩ = some (.int .i64 a1_4) := (blk_cell BK438.out 4).trans rfl; have hcz31_5 : w28.cell? ⟨gb438, 5, none⟩ = some (.slice A1_5 l1_5.length c1_5) := (blk_cell BK438.out 5).trans rfl; have hcz31_6 : w28.cell? ⟨gb438, 6, none⟩ = some (.slice A1_6 l1_6.length c1_6) := (blk_cell BK438.out 6).trans rfl; have hcz31_7 : w28.cell? ⟨gb438, 7, none⟩ = some (.slice A1_7 l1_7.length c1_7) := (blk_cell BK438.out 7).trans rfl; have hfz31_0 := blk_frozen BK438.out 0; have hfz31_1 := blk_frozen BK438.out 1; have hfz31_2 := blk_frozen BK438.out 2; have hfz31_3 := blk_frozen BK438.out 3; have hfz31_4 := blk_frozen BK438.out 4; have hfz31_5 := blk_frozen BK438.out 5; have hfz31_6 := blk_frozen BK438.out 6; have hfz31_7 := blk_frozen BK438.out 7) | ((with_reducible refine gate_callee (f := 65) rfl ?_); refine goesL_ (some 19) rfl rfl Try.func65 (by kernel_rfl) rfl #[.slice A0_2 l0_2.length c0_2, .slice A1_2 l1_2.length c1_2] rfl (by (try simp only [List.map_toArray, List.map_cons, List.map_nil]); first | done | rfl | (simp only [List.length_drop, List.length_take]; rfl)) ?_; (with_reducible refine (laws_eqIntS.calls k _ _ l0_2 _ _ l1_2 true _ ?side1 ?side2 ?side3 ?side4 A5.out).mono ?_); (case side1 => repeat (first | exact (Kd.C_below HR0_2.out HB.out) | (with_reducible refine Kd.C_alloc ?_ _) | (with_reducible refine Kd.C_drewN ?_ _) | (with_reducible refine Kd.C_drew ?_))); (case side2 => exact HC0_2.out); (case side3 => repeat (first | exact (Kd.C_below HR1_2.out HB.out) | (with_reducible refine Kd.C_alloc ?_ _) | (with_reducible refine Kd.C_drewN ?_ _) | (with_reducible refine Kd.C_drew ?_))); (case side4 => exact HC1_2.out); rintro e w' ⟨rfl, ⟨nd, rfl⟩⟩; refine ⟨_, rfl, ?_⟩) | ((with_reducible refine gate_callee (f := 66) rfl ?_); refine goesL_ (some 35) rfl rfl Try.func66 (by kernel_rfl) rfl #[.slice A0_5 l0_5.length c0_5, .slice A1_5 l1_5.length c1_5] rfl (by (try simp only [List.map_toArray, List.map_cons, List.map_nil]); first | done | rfl | (simp only [List.length_drop, List.length_take]; rfl)) ?_; (with_reducible refine (laws_eqInsS.calls k _ _ l0_5 _ _ l1_5 true _ ?side1 ?side2 ?side3 ?side4 A9.out).mono ?_); (case side1 => repeat (first | exact (Kd.C_below HR0_5.out (by repeat (first | (with_reducible first | exact HB.out | apply below_alloc | apply pw_below_drewN | apply below_drew1 | refine below_set ?_ GE437.out | refine below_set ?_ GE438.out) | exact HB.out))) | (with_reducible refine Kd.C_alloc ?_ _) | (with_reducible refine Kd.C_drewN ?_ _) | (with_reducible refine Kd.C_drew ?_))); (case side2 => exact HC0_5.out); (case side3 => repeat (first | exact (Kd.C_below HR1_5.out (by repeat (first | (with_reducible first | exact HB.out | apply below_alloc | apply pw_below_drewN | apply below_drew1 | refine below_set ?_ GE437.out | refine below_set ?_ GE438.out) | exact HB.out))) | (with_reducible refine Kd.C_alloc ?_ _) | (with_reducible refine Kd.C_drewN ?_ _) | (with_reducible refine Kd.C_drew ?_))); (case side4 => exact HC1_5.out); rintro e w32 ⟨rfl, hb⟩; refine ⟨_, rfl, ?_⟩; have n0_ := Aside0.mk (blk_below (g := gb437) (o := .cells #[.int .i64 a0_0, .int .i64 a0_1, .slice A0_2 l0_2.length c0_2, .int .i64 a0_3, .int .i64 a0_4, .slice A0_5 l0_5.length c0_5, .slice A0_6 l0_6.length c0_6, .slice A0_7 l0_7.length c0_7] 46 (0, 0)) (by (with_reducible repeat (first | refine blk_drewN ?_ _ | refine blk_drew ?_ | refine blk_alloc ?_ _)); exact BK437.out) hb); have n1_ := Aside0.mk (blk_below (g := gb438) (o := .cells #[.int .i64 a1_0, .int .i64 a1_1, .slice A1_2 l1_2.length c1_2, .int .i64 a1_3, .int .i64 a1_4, .slice A1_5 l1_5.length c1_5, .slice A1_6 l1_6.length c1_6, .slice A1_7 l1_7.length c1_7] 46 (0, 0)) (by (with_reducible repeat (first | refine blk_drewN ?_ _ | refine blk_drew ?_ | refine blk_alloc ?_ _)); exact BK438.out) hb); have n2_ := Aside0.mk (below_step (by repeat (first | (with_reducible first | exact HB.out | apply below_alloc | apply pw_below_drewN | apply below_drew1 | refine below_set ?_ GE437.out | refine below_set ?_ GE438.out) | exact HB.out)) hb); clear BK437; clear BK438; clear HB; have BK437 := n0_; have BK438 := n1_; have HB := n2_; clear n0_ n1_ n2_; (try clear hb); (try clear hb2); (try clear hk); (try clear hi); have hcz33_0 : w32.cell? ⟨gb437, 0, none⟩ = some (.int .i64 a0_0) := (blk_cell BK437.out 0).trans rfl; have hcz33_1 : w32.cell? ⟨gb437, 1, none⟩ = some (.int .i64 a0_1) := (blk_cell BK437.out 1).trans rfl; have hcz33_2 : w32.cell? ⟨gb437, 2, none⟩ = some (.slice A0_2 l0_2.length c0_2) := (blk_cell BK437.out 2).trans rfl; have hcz33_3 : w32.cell? ⟨gb437, 3, none⟩ = some (.int .i64 a0_3) := (blk_cell BK437.out 3).trans rfl; have hcz33_4 : w32.cell? ⟨gb437, 4, none⟩ = some (.int .i64 a0_4) := (blk_cell BK437.out 4).trans rfl; have hcz33_5 : w32.cell? ⟨gb437, 5, none⟩ = some (.slice A0_5 l0_5.length c0_5) := (blk_cell BK437.out 5).trans rfl; have hcz33_6 : w32.cell? ⟨gb437, 6, none⟩ = some (.slice A0_6 l0_6.length c0_6) := (blk_cell BK437.out 6).trans rfl; have hcz33_7 : w32.cell? ⟨gb437, 7, none⟩ = some (.slice A0_7 l0_7.length c0_7) := (blk_cell BK437.out 7).trans rfl; have hfz33_0 := blk_frozen BK437.out 0; have hfz33_1 := blk_frozen BK437.out 1; have hfz33_2 := blk_frozen BK437.out 2; have hfz33_3 := blk_frozen BK437.out 3; have hfz33_4 := blk_frozen BK437.out 4; have hfz33_5 := blk_frozen BK437.out 5; have hfz33_6 := blk_frozen BK437.out 6; have hfz33_7 := blk_frozen BK437.out 7; have hcz34_0 : w32.cell? ⟨gb438, 0, none⟩ = some (.int .i64 a1_0) := (blk_cell BK438.out 0).trans rfl; have hcz34_1 : w32.cell? ⟨gb438, 1, none⟩ = some (.int .i64 a1_1) := (blk_cell BK438.out 1).trans rfl; have hcz34_2 : w32.cell? ⟨gb438, 2, none⟩ = some (.slice A1_2 l1_2.length c1_2) := (blk_cell BK438.out 2).trans rfl; have hcz34_3 : w32.cell? ⟨gb438, 3, none⟩ = some (.int .i64 a1_3) := (blk_cell BK438.out 3).trans rfl; have hcz34_4 : w32.cell? ⟨gb438, 4, none⟩ = some (.int .i64 a1_4) := (blk_cell BK438.out 4).trans rfl; have hcz34_5 : w32.cell? ⟨gb438, 5, none⟩ = some (.slice A1_5 l1_5.length c1_5) := (blk_cell BK438.out 5).trans rfl; have hcz34_6 : w32.cell? ⟨gb438, 6, none⟩ = some (.slice A1_6 l1_6.length c1_6) := (blk_cell BK438.out 6).trans rfl; have hcz34_7 : w32.cell? ⟨gb438, 7, none⟩ = some (.slice A1_7 l1_7.length c1_7) := (blk_cell BK438.out 7).trans rfl; have hfz34_0 := blk_frozen BK438.out 0; have hfz34_1 := blk_frozen BK438.out 1; have hfz34_2 := blk_frozen BK438.out 2; have hfz34_3 := blk_frozen BK438.out 3; have hfz34_4 := blk_frozen BK438.out 4; have hfz34_5 := blk_frozen BK438.out 5; have hfz34_6 := blk_frozen BK438.out 6; have hfz34_7 := blk_frozen BK438.out 7) | ((with_reducible refine gate_callee (f := 67) rfl ?_); refine goesL_ (some 41) rfl rfl Try.func67 (by kernel_rfl) rfl #[.slice A0_6 l0_6.length c0_6, .slice A1_6 l1_6.length c1_6] rfl (by (try simp only [List.map_toArray, List.map_cons, List.map_nil]); first | done | rfl | (simp only [List.length_drop, List.length_take]; rfl)) ?_; (with_reducible refine (laws_eqShapeS.calls k _ _ l0_6 _ _ l1_6 true _ ?side1 ?side2 ?side3 ?side4 A11.out).mono ?_); (case side1 => repeat (first | exact (Kd.C_below HR0_6.out HB.out) | (with_reducible refine Kd.C_alloc ?_ _) | (with_reducible refine Kd.C_drewN ?_ _) | (with_reducible refine Kd.C_drew ?_))); (case side2 => exact HC0_6.out); (case side3 => repeat (first | exact (Kd.C_below HR1_6.out HB.out) | (with_reducible refine Kd.C_alloc ?_ _) | (with_reducible refine Kd.C_drewN ?_ _) | (with_reducible refine Kd.C_drew ?_))); (case side4 => exact HC1_6.out); rintro e w35 ⟨rfl, hb⟩; refine ⟨_, rfl, ?_⟩; have n0_ := Aside0.mk (blk_below (g := gb437) (o := .cells #[.int .i64 a0_0, .int .i64 a0_1, .slice A0_2 l0_2.length c0_2, .int .i64 a0_3, .int .i64 a0_4, .slice A0_5 l0_5.length c0_5, .slice A0_6 l0_6.length c0_6, .slice A0_7 l0_7.length c0_7] 46 (0, 0)) (by (with_reducible repeat (first | refine blk_drewN ?_ _ | refine blk_drew ?_ | refine blk_alloc ?_ _)); exact BK437.out) hb); have n1_ := Aside0.mk (blk_below (g := gb438) (o := .cells #[.int .i64 a1_0, .int .i64 a1_1, .slice A1_2 l1_2.length c1_2, .int .i64 a1_3, .int .i64 a1_4, .slice A1_5 l1_5.length c1_5, .slice A1_6 l1_6.length c1_6, .slice A1_7 l1_7.length c1_7] 46 (0, 0)) (by (with_reducible repeat (first | refine blk_drewN ?_ _ | refine blk_drew ?_ | refine blk_alloc ?_ _)); exact BK438.out) hb); have n2_ := Aside0.mk (below_step (by repeat (first | (with_reducible first | exact HB.out | apply below_alloc | apply pw_below_drewN | apply below_drew1 | refine below_set ?_ GE437.out | refine below_set ?_ GE438.out) | exact HB.out)) hb); clear BK437; clear BK438; clear HB; have BK437 := n0_; have BK438 := n1_; have HB := n2_; clear n0_ n1_ n2_; (try clear hb); (try clear hb2); (try clear hk); (try clear hi); have hcz36_0 : w35.cell? ⟨gb437, 0, none⟩ = some (.int .i64 a0_0) := (blk_cell BK437.out 0).trans rfl; have hcz36_1 : w35.cell? ⟨gb437, 1, none⟩ = some (.int .i64 a0_1) := (blk_cell BK437.out 1).trans rfl; have hcz36_2 : w35.cell? ⟨gb437, 2, none⟩ = some (.slice A0_2 l0_2.length c0_2) := (blk_cell BK437.out 2).trans rfl; have hcz36_3 : w35.cell? ⟨gb437, 3, none⟩ = some (.int .i64 a0_3) := (blk_cell BK437.out 3).trans rfl; have hcz36_4 : w35.cell? ⟨gb437, 4, none⟩ = some (.int .i64 a0_4) := (blk_cell BK437.out 4).trans rfl; have hcz36_5 : w35.cell? ⟨gb437, 5, none⟩ = some (.slice A0_5 l0_5.length c0_5) := (blk_cell BK437.out 5).trans rfl; have hcz36_6 : w35.cell? ⟨gb437, 6, none⟩ = some (.slice A0_6 l0_6.length c0_6) := (blk_cell BK437.out 6).trans rfl; have hcz36_7 : w35.cell? ⟨gb437, 7, none⟩ = some (.slice A0_7 l0_7.length c0_7) := (blk_cell BK437.out 7).trans rfl; have hfz36_0 := blk_frozen BK437.out 0; have hfz36_1 := blk_frozen BK437.out 1; have hfz36_2 := blk_frozen BK437.out 2; have hfz36_3 := blk_frozen BK437.out 3; have hfz36_4 := blk_frozen BK437.out 4; have hfz36_5 := blk_frozen BK437.out 5; have hfz36_6 := blk_frozen BK437.out 6; have hfz36_7 := blk_frozen BK437.out 7; have hcz37_0 : w35.cell? ⟨gb438, 0, none⟩ = some (.int .i64 a1_0) := (blk_cell BK438.out 0).trans rfl; have hcz37_1 : w35.cell? ⟨gb438, 1, none⟩ = some (.int .i64 a1_1) := (blk_cell BK438.out 1).trans rfl; have hcz37_2 : w35.cell? ⟨gb438, 2, none⟩ = some (.slice A1_2 l1_2.length c1_2) := (blk_cell BK438.out 2).trans rfl; have hcz37_3 : w35.cell? ⟨gb438, 3, none⟩ = some (.int .i64 a1_3) := (blk_cell BK438.out 3).trans rfl; have hcz37_4 : w35.cell? ⟨gb438, 4, none⟩ = some (.int .i64 a1_4) := (blk_cell BK438.out 4).trans rfl; have hcz37_5 : w35.cell? ⟨gb438, 5, none⟩ = some (.slice A1_5 l1_5.length c1_5) := (blk_cell BK438.out 5).trans rfl; have hcz37_6 : w35.cell? ⟨gb438, 6, none⟩ = some (.slice A1_6 l1_6.length c1_6) := (blk_cell BK438.out 6).trans rfl; have hcz37_7 : w35.cell? ⟨gb438, 7, none⟩ = some (.slice A1_7 l1_7.length c1_7) := (blk_cell BK438.out 7).trans rfl; have hfz37_0 := blk_frozen BK438.out 0; have hfz37_1 := blk_frozen BK438.out 1; have hfz37_2 := blk_frozen BK438.out 2; have hfz37_3 := blk_frozen BK438.out 3; have hfz37_4 := blk_frozen BK438.out 4; have hfz37_5 := blk_frozen BK438.out 5; have hfz37_6 := blk_frozen BK438.out 6; have hfz37_7 := blk_frozen BK438.out 7) | ((with_reducible refine gate_callee (f := 68) rfl ?_); refine goesL_ (some 47) rfl rfl Try.func68 (by kernel_rfl) rfl #[.slice A0_7 l0_7.length c0_7, .slice A1_7 l1_7.length c1_7] rfl (by (try simp only [List.map_toArray, List.map_cons, List.map_nil]); first | done | rfl | (simp only [List.length_drop, List.length_take]; rfl)) ?_; (with_reducible refine (laws_eqCatchS.calls k _ _ l0_7 _ _ l1_7 false _ ?side1 ?side2 ?side3 ?side4 A13.out).mono ?_); (case side1 => repeat (first | exact (Kd.C_below HR0_7.out HB.out) | (with_reducible refine Kd.C_alloc ?_ _) | (with_reducible refine Kd.C_drewN ?_ _) | (with_reducible refine Kd.C_drew ?_))); (case side2 => exact HC0_7.out); (case side3 => repeat (first | exact (Kd.C_below HR1_7.out HB.out) | (with_reducible refine Kd.C_alloc ?_ _) | (with_reducible refine Kd.C_drewN ?_ _) | (with_reducible refine Kd.C_drew ?_))); (case side4 => exact HC1_7.out); rintro e w38 ⟨rfl, hb⟩; refine ⟨_, rfl, ?_⟩; have n0_ := Aside0.mk (blk_below (g := gb437) (o := .cells #[.int .i64 a0_0, .int .i64 a0_1, .slice A0_2 l0_2.length c0_2, .int .i64 a0_3, .int .i64 a0_4, .slice A0_5 l0_5.length c0_5, .slice A0_6 l0_6.length c0_6, .slice A0_7 l0_7.length c0_7] 46 (0, 0)) (by (with_reducible repeat (first | refine blk_drewN ?_ _ | refine blk_drew ?_ | refine blk_alloc ?_ _)); exact BK437.out) hb); have n1_ := Aside0.mk (blk_below (g := gb438) (o := .cells #[.int .i64 a1_0, .int .i64 a1_1, .slice A1_2 l1_2.length c1_2, .int .i64 a1_3, .int .i64 a1_4, .slice A1_5 l1_5.length c1_5, .slice A1_6 l1_6.length c1_6, .slice A1_7 l1_7.length c1_7] 46 (0, 0)) (by (with_reducible repeat (first | refine blk_drewN ?_ _ | refine blk_drew ?_ | refine blk_alloc ?_ _)); exact BK438.out) hb); have n2_ := Aside0.mk (below_step (by repeat (first | (with_reducible first | exact HB.out | apply below_alloc | apply pw_below_drewN | apply below_drew1 | refine below_set ?_ GE437.out | refine below_set ?_ GE438.out) | exact HB.out)) hb); clear BK437; clear BK438; clear HB; have BK437 := n0_; have BK438 := n1_; have HB := n2_; clear n0_ n1_ n2_; (try clear hb); (try clear hb2); (try clear hk); (try clear hi)))
                  go_ret
                  exact ⟨by first | rfl | (simp [errW_none, errW_some] <;> rfl) | (simp [*, errW_none, errW_some] <;> rfl), by repeat (first | (with_reducible first | exact HB.out | apply below_alloc | apply pw_below_drewN | apply below_drew1 | refine below_set ?_ GE437.out | refine below_set ?_ GE438.out) | exact HB.out)⟩
              · replace c12 := Bool.eq_false_iff.mpr c12
                subst c12
                have H1 : (some false) = some r := by rw [if_neg (show ¬ (false = true) by decide)] at H; exact H
                clear H
                have H := H1
                clear H1
                obtain rfl := Option.some.inj H
                simp only [Option.some.injEq, Prod.mk.injEq] at H
                obtain ⟨rfl⟩ := H
                go_enter Try.func49, Try.ntmps49
                go_wp2_with (first | ((with_reducible refine gate_dst (N := 2) rfl ?_); refine box_event ?hg (N := 2) ?hd (cs := #[.int .i64 a0_0, .int .i64 a0_1, .slice A0_2 l0_2.length c0_2, .int .i64 a0_3, .int .i64 a0_4, .slice A0_5 l0_5.length c0_5, .slice A0_6 l0_6.length c0_6, .slice A0_7 l0_7.length c0_7]) (t := 46) ?hr ?_; (case hd => rfl); (case hg => rfl); (case hr => first | (go_simp; done) | (go_simp; rfl)); intro gb437 hg w39 hbox hb; have n0_ := Aside0.mk (below_step (by repeat (first | (with_reducible first | exact HB.out | apply below_alloc | apply pw_below_drewN | apply below_drew1) | exact HB.out)) hb); have n1_ := Aside0.mk (hbox); have n2_ := Aside0.mk ((by rw [hg]; exact (below_size (by repeat (first | (with_reducible first | exact HB.out | apply below_alloc | apply pw_below_drewN | apply below_drew1) | exact HB.out))) : w.heap.size ≤ gb437)); have n3_ := Aside0.mk ((by rw [hg]; exact (below_size (by repeat (first | (with_reducible first | exact HB.out | apply below_alloc | apply pw_below_drewN | apply below_drew1) | exact HB.out))) : w.heap.size ≤ gb437)); clear HB; have HB := n0_; have BK437 := n1_; have GW437 := n2_; have GE437 := n3_; clear n0_ n1_ n2_ n3_; clear hb hbox hg) | ((with_reducible refine gate_dst (N := 3) rfl ?_); refine box_event ?hg (N := 3) ?hd (cs := #[.int .i64 a1_0, .int .i64 a1_1, .slice A1_2 l1_2.length c1_2, .int .i64 a1_3, .int .i64 a1_4, .slice A1_5 l1_5.length c1_5, .slice A1_6 l1_6.length c1_6, .slice A1_7 l1_7.length c1_7]) (t := 46) ?hr ?_; (case hd => rfl); (case hg => rfl); (case hr => first | (go_simp; done) | (go_simp; rfl)); intro gb438 hg w40 hbox hb; have n0_ := Aside0.mk (blk_below (g := gb437) (o := .cells #[.int .i64 a0_0, .int .i64 a0_1, .slice A0_2 l0_2.length c0_2, .int .i64 a0_3, .int .i64 a0_4, .slice A0_5 l0_5.length c0_5, .slice A0_6 l0_6.length c0_6, .slice A0_7 l0_7.length c0_7] 46 (0, 0)) (by (with_reducible repeat (first | refine blk_drewN ?_ _ | refine blk_drew ?_ | refine blk_alloc ?_ _)); exact BK437.out) hb); have n1_ := Aside0.mk (below_step (by repeat (first | (with_reducible first | exact HB.out | apply below_alloc | apply pw_below_drewN | apply below_drew1 | refine below_set ?_ GE437.out) | exact HB.out)) hb); have n2_ := Aside0.mk (hbox); have n3_ := Aside0.mk ((by rw [hg]; exact (below_size (by repeat (first | (with_reducible first | exact HB.out | apply below_alloc | apply pw_below_drewN | apply below_drew1 | refine below_set ?_ GE437.out) | exact HB.out))) : w.heap.size ≤ gb438)); have n4_ := Aside0.mk ((by rw [hg]; exact (below_size (by repeat (first | (with_reducible first | exact HB.out | apply below_alloc | apply pw_below_drewN | apply below_drew1 | refine below_set ?_ GE437.out) | exact HB.out))) : w.heap.size ≤ gb438)); have n5_ := Aside0.mk ((by rw [hg]; exact Nat.ne_of_lt (blk_lt (g := gb437) (o := .cells #[.int .i64 a0_0, .int .i64 a0_1, .slice A0_2 l0_2.length c0_2, .int .i64 a0_3, .int .i64 a0_4, .slice A0_5 l0_5.length c0_5, .slice A0_6 l0_6.length c0_6, .slice A0_7 l0_7.length c0_7] 46 (0, 0)) (by (with_reducible repeat (first | refine blk_drewN ?_ _ | refine blk_drew ?_ | refine blk_alloc ?_ _)); exact BK437.out)) : gb437 ≠ gb438)); have n6_ := Aside0.mk ((by rw [hg]; exact Nat.ne_of_gt (blk_lt (g := gb437) (o := .cells #[.int .i64 a0_0, .int .i64 a0_1, .slice A0_2 l0_2.length c0_2, .int .i64 a0_3, .int .i64 a0_4, .slice A0_5 l0_5.length c0_5, .slice A0_6 l0_6.length c0_6, .slice A0_7 l0_7.length c0_7] 46 (0, 0)) (by (with_reducible repeat (first | refine blk_drewN ?_ _ | refine blk_drew ?_ | refine blk_alloc ?_ _)); exact BK437.out)) : gb438 ≠ gb437)); clear BK437; clear HB; have BK437 := n0_; have HB := n1_; have BK438 := n2_; have GW438 := n3_; have GE438 := n4_; have NB437_438 := n5_; have NB438_437 := n6_; clear n0_ n1_ n2_ n3_ n4_ n5_ n6_; clear hb hbox hg; have hnb41 := NB437_438.out; have hnc41 := NB438_437.out; have hcz42_0 : w40.cell? ⟨gb437, 0, none⟩ = some (.int .i64 a0_0) := (blk_cell BK437.out 0).trans rfl; have hcz42_1 : w40.cell? ⟨gb437, 1, none⟩ = some (.int .i64 a0_1) := (blk_cell BK437.out 1).trans rfl; have hcz42_2 : w40.cell? ⟨gb437, 2, none⟩ = some (.slice A0_2 l0_2.length c0_2) := (blk_cell BK437.out 2).trans rfl; have hcz42_3 : w40.cell? ⟨gb437, 3, none⟩ = some (.int .i64 a0_3) := (blk_cell BK437.out 3).trans rfl; have hcz42_4 : w40.cell? ⟨gb437, 4, none⟩ = some (.int .i64 a0_4) := (blk_cell BK437.out 4).trans rfl; have hcz42_5 : w40.cell? ⟨gb437, 5, none⟩ = some (.slice A0_5 l0_5.length c0_5) := (blk_cell BK437.out 5).trans rfl; have hcz42_6 : w40.cell? ⟨gb437, 6, none⟩ = some (.slice A0_6 l0_6.length c0_6) := (blk_cell BK437.out 6).trans rfl; have hcz42_7 : w40.cell? ⟨gb437, 7, none⟩ = some (.slice A0_7 l0_7.length c0_7) := (blk_cell BK437.out 7).trans rfl; have hfz42_0 := blk_frozen BK437.out 0; have hfz42_1 := blk_frozen BK437.out 1; have hfz42_2 := blk_frozen BK437.out 2; have hfz42_3 := blk_frozen BK437.out 3; have hfz42_4 := blk_frozen BK437.out 4; have hfz42_5 := blk_frozen BK437.out 5; have hfz42_6 := blk_frozen BK437.out 6; have hfz42_7 := blk_frozen BK437.out 7; have hcz43_0 : w40.cell? ⟨gb438, 0, none⟩ = some (.int .i64 a1_0) := (blk_cell BK438.out 0).trans rfl; have hcz43_1 : w40.cell? ⟨gb438, 1, none⟩ = some (.int .i64 a1_1) := (blk_cell BK438.out 1).trans rfl; have hcz43_2 : w40.cell? ⟨gb438, 2, none⟩ = some (.slice A1_2 l1_2.length c1_2) := (blk_cell BK438.out 2).trans rfl; have hcz43_3 : w40.cell? ⟨gb438, 3, none⟩ = some (.int .i64 a1_3) := (blk_cell BK438.out 3).trans rfl; have hcz43_4 : w40.cell? ⟨gb438, 4, none⟩ = some (.int .i64 a1_4) := (blk_cell BK438.out 4).trans rfl; have hcz43_5 : w40.cell? ⟨gb438, 5, none⟩ = some (.slice A1_5 l1_5.length c1_5) := (blk_cell BK438.out 5).trans rfl; have hcz43_6 : w40.cell? ⟨gb438, 6, none⟩ = some (.slice A1_6 l1_6.length c1_6) := (blk_cell BK438.out 6).trans rfl; have hcz43_7 : w40.cell? ⟨gb438, 7, none⟩ = some (.slice A1_7 l1_7.length c1_7) := (blk_cell BK438.out 7).trans rfl; have hfz43_0 := blk_frozen BK438.out 0; have hfz43_1 := blk_frozen BK438.out 1; have hfz43_2 := blk_frozen BK438.out 2; have hfz43_3 := blk_frozen BK438.out 3; have hfz43_4 := blk_frozen BK438.out 4; have hfz43_5 := blk_frozen BK438.out 5; have hfz43_6 := blk_frozen BK438.out 6; have hfz43_7 := blk_frozen BK438.out 7) | ((with_reducible refine gate_callee (f := 65) rfl ?_); refine goesL_ (some 19) rfl rfl Try.func65 (by kernel_rfl) rfl #[.slice A0_2 l0_2.length c0_2, .slice A1_2 l1_2.length c1_2] rfl (by (try simp only [List.map_toArray, List.map_cons, List.map_nil]); first | done | rfl | (simp only [List.length_drop, List.length_take]; rfl)) ?_; (with_reducible refine (laws_eqIntS.calls k _ _ l0_2 _ _ l1_2 true _ ?side1 ?side2 ?side3 ?side4 A5.out).mono ?_); (case side1 => repeat (first | exact (Kd.C_below HR0_2.out HB.out) | (with_reducible refine Kd.C_alloc ?_ _) | (with_reducible refine Kd.C_drewN ?_ _) | (with_reducible refine Kd.C_drew ?_))); (case side2 => exact HC0_2.out); (case side3 => repeat (first | exact (Kd.C_below HR1_2.out HB.out) | (with_reducible refine Kd.C_alloc ?_ _) | (with_reducible refine Kd.C_drewN ?_ _) | (with_reducible refine Kd.C_drew ?_))); (case side4 => exact HC1_2.out); rintro e w' ⟨rfl, ⟨nd, rfl⟩⟩; refine ⟨_, rfl, ?_⟩) | ((with_reducible refine gate_callee (f := 66) rfl ?_); refine goesL_ (some 35) rfl rfl Try.func66 (by kernel_rfl) rfl #[.slice A0_5 l0_5.length c0_5, .slice A1_5 l1_5.length c1_5] rfl (by (try simp only [List.map_toArray, List.map_cons, List.map_nil]); first | done | rfl | (simp only [List.length_drop, List.length_take]; rfl)) ?_; (with_reducible refine (laws_eqInsS.calls k _ _ l0_5 _ _ l1_5 true _ ?side1 ?side2 ?side3 ?side4 A9.out).mono ?_); (case side1 => repeat (first | exact (Kd.C_below HR0_5.out (by repeat (first | (with_reducible first | exact HB.out | apply below_alloc | apply pw_below_drewN | apply below_drew1 | refine below_set ?_ GE437.out | refine below_set ?_ GE438.out) | exact HB.out))) | (with_reducible refine Kd.C_alloc ?_ _) | (with_reducible refine Kd.C_drewN ?_ _) | (with_reducible refine Kd.C_drew ?_))); (case side2 => exact HC0_5.out); (case side3 => repeat (first | exact (Kd.C_below HR1_5.out (by repeat (first | (with_reducible first | exact HB.out | apply below_alloc | apply pw_below_drewN | apply below_drew1 | refine below_set ?_ GE437.out | refine below_set ?_ GE438.out) | exact HB.out))) | (with_reducible refine Kd.C_alloc ?_ _) | (with_reducible refine Kd.C_drewN ?_ _) | (with_reducible refine Kd.C_drew ?_))); (case side4 => exact HC1_5.out); rintro e w44 ⟨rfl, hb⟩; refine ⟨_, rfl, ?_⟩; have n0_ := Aside0.mk (blk_below (g := gb437) (o := .cells #[.int .i64 a0_0, .int .i64 a0_1, .slice A0_2 l0_2.length c0_2, .int .i64 a0_3, .int .i64 a0_4, .slice A0_5 l0_5.length c0_5, .slice A0_6 l0_6.length c0_6, .slice A0_7 l0_7.length c0_7] 46 (0, 0)) (by (with_reducible repeat (first | refine blk_drewN ?_ _ | refine blk_drew ?_ | refine blk_alloc ?_ _)); exact BK437.out) hb); have n1_ := Aside0.mk (blk_below (g := gb438) (o := .cells #[.int .i64 a1_0, .int .i64 a1_1, .slice A1_2 l1_2.length c1_2, .int .i64 a1_3, .int .i64 a1_4, .slice A1_5 l1_5.length c1_5, .slice A1_6 l1_6.length c1_6, .slice A1_7 l1_7.length c1_7] 46 (0, 0)) (by (with_reducible repeat (first | refine blk_drewN ?_ _ | refine blk_drew ?_ | refine blk_alloc ?_ _)); exact BK438.out) hb); have n2_ := Aside0.mk (below_step (by repeat (first | (with_reducible first | exact HB.out | apply below_alloc | apply pw_below_drewN | apply below_drew1 | refine below_set ?_ GE437.out | refine below_set ?_ GE438.out) | exact HB.out)) hb); clear BK437; clear BK438; clear HB; have BK437 := n0_; have BK438 := n1_; have HB := n2_; clear n0_ n1_ n2_; (try clear hb); (try clear hb2); (try clear hk); (try clear hi); have hcz45_0 : w44.cell? ⟨gb437, 0, none⟩ = some (.int .i64 a0_0) := (blk_cell BK437.out 0).trans rfl; have hcz45_1 : w44.cell? ⟨gb437, 1, none⟩ = some (.int .i64 a0_1) := (blk_cell BK437.out 1).trans rfl; have hcz45_2 : w44.cell? ⟨gb437, 2, none⟩ = some (.slice A0_2 l0_2.length c0_2) := (blk_cell BK437.out 2).trans rfl; have hcz45_3 : w44.cell? ⟨gb437, 3, none⟩ = some (.int .i64 a0_3) := (blk_cell BK437.out 3).trans rfl; have hcz45_4 : w44.cell? ⟨gb437, 4, none⟩ = some (.int .i64 a0_4) := (blk_cell BK437.out 4).trans rfl; have hcz45_5 : w44.cell? ⟨gb437, 5, none⟩ = some (.slice A0_5 l0_5.length c0_5) := (blk_cell BK437.out 5).trans rfl; have hcz45_6 : w44.cell? ⟨gb437, 6, none⟩ = some (.slice A0_6 l0_6.length c0_6) := (blk_cell BK437.out 6).trans rfl; have hcz45_7 : w44.cell? ⟨gb437, 7, none⟩ = some (.slice A0_7 l0_7.length c0_7) := (blk_cell BK437.out 7).trans rfl; have hfz45_0 := blk_frozen BK437.out 0; have hfz45_1 := blk_frozen BK437.out 1; have hfz45_2 := blk_frozen BK437.out 2; have hfz45_3 := blk_frozen BK437.out 3; have hfz45_4 := blk_frozen BK437.out 4; have hfz45_5 := blk_frozen BK437.out 5; have hfz45_6 := blk_frozen BK437.out 6; have hfz45_7 := blk_frozen BK437.out 7; have hcz46_0 : w44.cell? ⟨gb438, 0, none⟩ = some (.int .i64 a1_0) := (blk_cell BK438.out 0).trans rfl; have hcz46_1 : w44.cell? ⟨gb438, 1, none⟩ = some (.int .i64 a1_1) := (blk_cell BK438.out 1).trans rfl; have hcz46_2 : w44.cell? ⟨gb438, 2, none⟩ = some (.slice A1_2 l1_2.length c1_2) := (blk_cell BK438.out 2).trans rfl; have hcz46_3 : w44.cell? ⟨gb438, 3, none⟩ = some (.int .i64 a1_3) := (blk_cell BK438.out 3).trans rfl; have hcz46_4 : w44.cell? ⟨gb438, 4, none⟩ = some (.int .i64 a1_4) := (blk_cell BK438.out 4).trans rfl; have hcz46_5 : w44.cell? ⟨gb438, 5, none⟩ = some (.slice A1_5 l1_5.length c1_5) := (blk_cell BK438.out 5).trans rfl; have hcz46_6 : w44.cell? ⟨gb438, 6, none⟩ = some (.slice A1_6 l1_6.length c1_6) := (blk_cell BK438.out 6).trans rfl; have hcz46_7 : w44.cell? ⟨gb438, 7, none⟩ = some (.slice A1_7 l1_7.length c1_7) := (blk_cell BK438.out 7).trans rfl; have hfz46_0 := blk_frozen BK438.out 0; have hfz46_1 := blk_frozen BK438.out 1; have hfz46_2 := blk_frozen BK438.out 2; have hfz46_3 := blk_frozen BK438.out 3; have hfz46_4 := blk_frozen BK438.out 4; have hfz46_5 := blk_frozen BK438.out 5; have hfz46_6 := blk_frozen BK438.out 6; have hfz46_7 := blk_frozen BK438.out 7) | ((with_reducible refine gate_callee (f := 67) rfl ?_); refine goesL_ (some 41) rfl rfl Try.func67 (by kernel_rfl) rfl #[.slice A0_6 l0_6.length c0_6, .slice A1_6 l1_6.length c1_6] rfl (by (try simp only [List.map_toArray, List.map_cons, List.map_nil]); first | done | rfl | (simp only [List.length_drop, List.length_take]; rfl)) ?_; (with_reducible refine (laws_eqShapeS.calls k _ _ l0_6 _ _ l1_6 false _ ?side1 ?side2 ?side3 ?side4 A11.out).mono ?_); (case side1 => repeat (first | exact (Kd.C_below HR0_6.out HB.out) | (with_reducible refine Kd.C_alloc ?_ _) | (with_reducible refine Kd.C_drewN ?_ _) | (with_reducible refine Kd.C_drew ?_))); (case side2 => exact HC0_6.out); (case side3 => repeat (first | exact (Kd.C_below HR1_6.out HB.out) | (with_reducible refine Kd.C_alloc ?_ _) | (with_reducible refine Kd.C_drewN ?_ _) | (with_reducible refine Kd.C_drew ?_))); (case side4 => exact HC1_6.out); rintro e w47 ⟨rfl, hb⟩; refine ⟨_, rfl, ?_⟩; have n0_ := Aside0.mk (blk_below (g := gb437) (o := .cells #[.int .i64 a0_0, .int .i64 a0_1, .slice A0_2 l0_2.length c0_2, .int .i64 a0_3, .int .i64 a0_4, .slice A0_5 l0_5.length c0_5, .slice A0_6 l0_6.length c0_6, .slice A0_7 l0_7.length c0_7] 46 (0, 0)) (by (with_reducible repeat (first | refine blk_drewN ?_ _ | refine blk_drew ?_ | refine blk_alloc ?_ _)); exact BK437.out) hb); have n1_ := Aside0.mk (blk_below (g := gb438) (o := .cells #[.int .i64 a1_0, .int .i64 a1_1, .slice A1_2 l1_2.length c1_2, .int .i64 a1_3, .int .i64 a1_4, .slice A1_5 l1_5.length c1_5, .slice A1_6 l1_6.length c1_6, .slice A1_7 l1_7.length c1_7] 46 (0, 0)) (by (with_reducible repeat (first | refine blk_drewN ?_ _ | refine blk_drew ?_ | refine blk_alloc ?_ _)); exact BK438.out) hb); have n2_ := Aside0.mk (below_step (by repeat (first | (with_reducible first | exact HB.out | apply below_alloc | apply pw_below_drewN | apply below_drew1 | refine below_set ?_ GE437.out | refine below_set ?_ GE438.out) | exact HB.out)) hb); clear BK437; clear BK438; clear HB; have BK437 := n0_; have BK438 := n1_; have HB := n2_; clear n0_ n1_ n2_; (try clear hb); (try clear hb2); (try clear hk); (try clear hi)))
                go_ret
                exact ⟨by first | rfl | (simp [errW_none, errW_some] <;> rfl) | (simp [*, errW_none, errW_some] <;> rfl), by repeat (first | (with_reducible first | exact HB.out | apply below_alloc | apply pw_below_drewN | apply below_drew1 | refine below_set ?_ GE437.out | refine below_set ?_ GE438.out) | exact HB.out)⟩
            · replace c10 := Bool.eq_false_iff.mpr c10
              subst c10
              have H1 : (some false) = some r := by rw [if_neg (show ¬ (false = true) by decide)] at H; exact H
              clear H
              have H := H1
              clear H1
              obtain rfl := Option.some.inj H
              simp only [Option.some.injEq, Prod.mk.injEq] at H
              obtain ⟨rfl⟩ := H
              go_enter Try.func49, Try.ntmps49
              go_wp2_with (first | ((with_reducible refine gate_dst (N := 2) rfl ?_); refine box_event ?hg (N := 2) ?hd (cs := #[.int .i64 a0_0, .int .i64 a0_1, .slice A0_2 l0_2.length c0_2, .int .i64 a0_3, .int .i64 a0_4, .slice A0_5 l0_5.length c0_5, .slice A0_6 l0_6.length c0_6, .slice A0_7 l0_7.length c0_7]) (t := 46) ?hr ?_; (case hd => rfl); (case hg => rfl); (case hr => first | (go_simp; done) | (go_simp; rfl)); intro gb437 hg w48 hbox hb; have n0_ := Aside0.mk (below_step (by repeat (first | (with_reducible first | exact HB.out | apply below_alloc | apply pw_below_drewN | apply below_drew1) | exact HB.out)) hb); have n1_ := Aside0.mk (hbox); have n2_ := Aside0.mk ((by rw [hg]; exact (below_size (by repeat (first | (with_reducible first | exact HB.out | apply below_alloc | apply pw_below_drewN | apply below_drew1) | exact HB.out))) : w.heap.size ≤ gb437)); have n3_ := Aside0.mk ((by rw [hg]; exact (below_size (by repeat (first | (with_reducible first | exact HB.out | apply below_alloc | apply pw_below_drewN | apply below_drew1) | exact HB.out))) : w.heap.size ≤ gb437)); clear HB; have HB := n0_; have BK437 := n1_; have GW437 := n2_; have GE437 := n3_; clear n0_ n1_ n2_ n3_; clear hb hbox hg) | ((with_reducible refine gate_dst (N := 3) rfl ?_); refine box_event ?hg (N := 3) ?hd (cs := #[.int .i64 a1_0, .int .i64 a1_1, .slice A1_2 l1_2.length c1_2, .int .i64 a1_3, .int .i64 a1_4, .slice A1_5 l1_5.length c1_5, .slice A1_6 l1_6.length c1_6, .slice A1_7 l1_7.length c1_7]) (t := 46) ?hr ?_; (case hd => rfl); (case hg => rfl); (case hr => first | (go_simp; done) | (go_simp; rfl)); intro gb438 hg w49 hbox hb; have n0_ := Aside0.mk (blk_below (g := gb437) (o := .cells #[.int .i64 a0_0, .int .i64 a0_1, .slice A0_2 l0_2.length c0_2, .int .i64 a0_3, .int .i64 a0_4, .slice A0_5 l0_5.length c0_5, .slice A0_6 l0_6.length c0_6, .slice A0_7 l0_7.length c0_7] 46 (0, 0)) (by (with_reducible repeat (first | refine blk_drewN ?_ _ | refine blk_drew ?_ | refine blk_alloc ?_ _)); exact BK437.out) hb); have n1_ := Aside0.mk (below_step (by repeat (first | (with_reducible first | exact HB.out | apply below_alloc | apply pw_below_drewN | apply below_drew1 | refine below_set ?_ GE437.out) | exact HB.out)) hb); have n2_ := Aside0.mk (hbox); have n3_ := Aside0.mk ((by rw [hg]; exact (below_size (by repeat (first | (with_reducible first | exact HB.out | apply below_alloc | apply pw_below_drewN | apply below_drew1 | refine below_set ?_ GE437.out) | exact HB.out))) : w.heap.size ≤ gb438)); have n4_ := Aside0.mk ((by rw [hg]; exact (below_size (by repeat (first | (with_reducible first | exact HB.out | apply below_alloc | apply pw_below_drewN | apply below_drew1 | refine below_set ?_ GE437.out) | exact HB.out))) : w.heap.size ≤ gb438)); have n5_ := Aside0.mk ((by rw [hg]; exact Nat.ne_of_lt (blk_lt (g := gb437) (o := .cells #[.int .i64 a0_0, .int .i64 a0_1, .slice A0_2 l0_2.length c0_2, .int .i64 a0_3, .int .i64 a0_4, .slice A0_5 l0_5.length c0_5, .slice A0_6 l0_6.length c0_6, .slice A0_7 l0_7.length c0_7] 46 (0, 0)) (by (with_reducible repeat (first | refine blk_drewN ?_ _ | refine blk_drew ?_ | refine blk_alloc ?_ _)); exact BK437.out)) : gb437 ≠ gb438)); have n6_ := Aside0.mk ((by rw [hg]; exact Nat.ne_of_gt (blk_lt (g := gb437) (o := .cells #[.int .i64 a0_0, .int .i64 a0_1, .slice A0_2 l0_2.length c0_2, .int .i64 a0_3, .int .i64 a0_4, .slice A0_5 l0_5.length c0_5, .slice A0_6 l0_6.length c0_6, .slice A0_7 l0_7.length c0_7] 46 (0, 0)) (by (with_reducible repeat (first | refine blk_drewN ?_ _ | refine blk_drew ?_ | refine blk_alloc ?_ _)); exact BK437.out)) : gb438 ≠ gb437)); clear BK437; clear HB; have BK437 := n0_; have HB := n1_; have BK438 := n2_; have GW438 := n3_; have GE438 := n4_; have NB437_438 := n5_; have NB438_437 := n6_; clear n0_ n1_ n2_ n3_ n4_ n5_ n6_; clear hb hbox hg; have hnb50 := NB437_438.out; have hnc50 := NB438_437.out; have hcz51_0 : w49.cell? ⟨gb437, 0, none⟩ = some (.int .i64 a0_0) := (blk_cell BK437.out 0).trans rfl; have hcz51_1 : w49.cell? ⟨gb437, 1, none⟩ = some (.int .i64 a0_1) := (blk_cell BK437.out 1).trans rfl; have hcz51_2 : w49.cell? ⟨gb437, 2, none⟩ = some (.slice A0_2 l0_2.length c0_2) := (blk_cell BK437.out 2).trans rfl; have hcz51_3 : w49.cell? ⟨gb437, 3, none⟩ = some (.int .i64 a0_3) := (blk_cell BK437.out 3).trans rfl; have hcz51_4 : w49.cell? ⟨gb437, 4, none⟩ = some (.int .i64 a0_4) := (blk_cell BK437.out 4).trans rfl; have hcz51_5 : w49.cell? ⟨gb437, 5, none⟩ = some (.slice A0_5 l0_5.length c0_5) := (blk_cell BK437.out 5).trans rfl; have hcz51_6 : w49.cell? ⟨gb437, 6, none⟩ = some (.slice A0_6 l0_6.length c0_6) := (blk_cell BK437.out 6).trans rfl; have hcz51_7 : w49.cell? ⟨gb437, 7, none⟩ = some (.slice A0_7 l0_7.length c0_7) := (blk_cell BK437.out 7).trans rfl; have hfz51_0 := blk_frozen BK437.out 0; have hfz51_1 := blk_frozen BK437.out 1; have hfz51_2 := blk_frozen BK437.out 2; have hfz51_3 := blk_frozen BK437.out 3; have hfz51_4 := blk_frozen BK437.out 4; have hfz51_5 := blk_frozen BK437.out 5; have hfz51_6 := blk_frozen BK437.out 6; have hfz51_7 := blk_frozen BK437.out 7; have hcz52_0 : w49.cell? ⟨gb438, 0, none⟩ = some (.int .i64 a1_0) := (blk_cell BK438.out 0).trans rfl; have hcz52_1 : w49.cell? ⟨gb438, 1, none⟩ = some (.int .i64 a1_1) := (blk_cell BK438.out 1).trans rfl; have hcz52_2 : w49.cell? ⟨gb438, 2, none⟩ = some (.slice A1_2 l1_2.length c1_2) := (blk_cell BK438.out 2).trans rfl; have hcz52_3 : w49.cell? ⟨gb438, 3, none⟩ = some (.int .i64 a1_3) := (blk_cell BK438.out 3).trans rfl; have hcz52_4 : w49.cell? ⟨gb438, 4, none⟩ = some (.int .i64 a1_4) := (blk_cell BK438.out 4).trans rfl; have hcz52_5 : w49.cell? ⟨gb438, 5, none⟩ = some (.slice A1_5 l1_5.length c1_5) := (blk_cell BK438.out 5).trans rfl; have hcz52_6 : w49.cell? ⟨gb438, 6, none⟩ = some (.slice A1_6 l1_6.length c1_6) := (blk_cell BK438.out 6).trans rfl; have hcz52_7 : w49.cell? ⟨gb438, 7, none⟩ = some (.slice A1_7 l1_7.length c1_7) := (blk_cell BK438.out 7).trans rfl; have hfz52_0 := blk_frozen BK438.out 0; have hfz52_1 := blk_frozen BK438.out 1; have hfz52_2 := blk_frozen BK438.out 2; have hfz52_3 := blk_frozen BK438.out 3; have hfz52_4 := blk_frozen BK438.out 4; have hfz52_5 := blk_frozen BK438.out 5; have hfz52_6 := blk_frozen BK438.out 6; have hfz52_7 := blk_frozen BK438.out 7) | ((with_reducible refine gate_callee (f := 65) rfl ?_); refine goesL_ (some 19) rfl rfl Try.func65 (by kernel_rfl) rfl #[.slice A0_2 l0_2.length c0_2, .slice A1_2 l1_2.length c1_2] rfl (by (try simp only [List.map_toArray, List.map_cons, List.map_nil]); first | done | rfl | (simp only [List.length_drop, List.length_take]; rfl)) ?_; (with_reducible refine (laws_eqIntS.calls k _ _ l0_2 _ _ l1_2 true _ ?side1 ?side2 ?side3 ?side4 A5.out).mono ?_); (case side1 => repeat (first | exact (Kd.C_below HR0_2.out HB.out) | (with_reducible refine Kd.C_alloc ?_ _) | (with_reducible refine Kd.C_drewN ?_ _) | (with_reducible refine Kd.C_drew ?_))); (case side2 => exact HC0_2.out); (case side3 => repeat (first | exact (Kd.C_below HR1_2.out HB.out) | (with_reducible refine Kd.C_alloc ?_ _) | (with_reducible refine Kd.C_drewN ?_ _) | (with_reducible refine Kd.C_drew ?_))); (case side4 => exact HC1_2.out); rintro e w' ⟨rfl, ⟨nd, rfl⟩⟩; refine ⟨_, rfl, ?_⟩) | ((with_reducible refine gate_callee (f := 66) rfl ?_); refine goesL_ (some 35) rfl rfl Try.func66 (by kernel_rfl) rfl #[.slice A0_5 l0_5.length c0_5, .slice A1_5 l1_5.length c1_5] rfl (by (try simp only [List.map_toArray, List.map_cons, List.map_nil]); first | done | rfl | (simp only [List.length_drop, List.length_take]; rfl)) ?_; (with_reducible refine (laws_eqInsS.calls k _ _ l0_5 _ _ l1_5 false _ ?side1 ?side2 ?side3 ?side4 A9.out).mono ?_); (case side1 => repeat (first | exact (Kd.C_below HR0_5.out (by repeat (first | (with_reducible first | exact HB.out | apply below_alloc | apply pw_below_drewN | apply below_drew1 | refine below_set ?_ GE437.out | refine below_set ?_ GE438.out) | exact HB.out))) | (with_reducible refine Kd.C_alloc ?_ _) | (with_reducible refine Kd.C_drewN ?_ _) | (with_reducible refine Kd.C_drew ?_))); (case side2 => exact HC0_5.out); (case side3 => repeat (first | exact (Kd.C_below HR1_5.out (by repeat (first | (with_reducible first | exact HB.out | apply below_alloc | apply pw_below_drewN | apply below_drew1 | refine below_set ?_ GE437.out | refine below_set ?_ GE438.out) | exact HB.out))) | (with_reducible refine Kd.C_alloc ?_ _) | (with_reducible refine Kd.C_drewN ?_ _) | (with_reducible refine Kd.C_drew ?_))); (case side4 => exact HC1_5.out); rintro e w53 ⟨rfl, hb⟩; refine ⟨_, rfl, ?_⟩; have n0_ := Aside0.mk (blk_below (g := gb437) (o := .cells #[.int .i64 a0_0, .int .i64 a0_1, .slice A0_2 l0_2.length c0_2, .int .i64 a0_3, .int .i64 a0_4, .slice A0_5 l0_5.length c0_5, .slice A0_6 l0_6.length c0_6, .slice A0_7 l0_7.length c0_7] 46 (0, 0)) (by (with_reducible repeat (first | refine blk_drewN ?_ _ | refine blk_drew ?_ | refine blk_alloc ?_ _)); exact BK437.out) hb); have n1_ := Aside0.mk (blk_below (g := gb438) (o := .cells #[.int .i64 a1_0, .int .i64 a1_1, .slice A1_2 l1_2.length c1_2, .int .i64 a1_3, .int .i64 a1_4, .slice A1_5 l1_5.length c1_5, .slice A1_6 l1_6.length c1_6, .slice A1_7 l1_7.length c1_7] 46 (0, 0)) (by (with_reducible repeat (first | refine blk_drewN ?_ _ | refine blk_drew ?_ | refine blk_alloc ?_ _)); exact BK438.out) hb); have n2_ := Aside0.mk (below_step (by repeat (first | (with_reducible first | exact HB.out | apply below_alloc | apply pw_below_drewN | apply below_drew1 | refine below_set ?_ GE437.out | refine below_set ?_ GE438.out) | exact HB.out)) hb); clear BK437; clear BK438; clear HB; have BK437 := n0_; have BK438 := n1_; have HB := n2_; clear n0_ n1_ n2_; (try clear hb); (try clear hb2); (try clear hk); (try clear hi)))
              go_ret
              exact ⟨by first | rfl | (simp [errW_none, errW_some] <;> rfl) | (simp [*, errW_none, errW_some] <;> rfl), by repeat (first | (with_reducible first | exact HB.out | apply below_alloc | apply pw_below_drewN | apply below_drew1 | refine below_set ?_ GE437.out | refine below_set ?_ GE438.out) | exact HB.out)⟩
          · rw [if_neg c8] at H
            have c8b0 : (a0_4 == a1_4) = false := beq_eq_false_iff_ne.mpr c8
            have c8b1 : (a0_4 != a1_4) = true := bne_iff_ne.mpr c8
            obtain rfl := Option.some.inj H
            simp only [Option.some.injEq, Prod.mk.injEq] at H
            obtain ⟨rfl⟩ := H
            go_enter Try.func49, Try.ntmps49
            go_wp2_with (first | ((with_reducible refine gate_dst (N := 2) rfl ?_); refine box_event ?hg (N := 2) ?hd (cs := #[.int .i64 a0_0, .int .i64 a0_1, .slice A0_2 l0_2.length c0_2, .int .i64 a0_3, .int .i64 a0_4, .slice A0_5 l0_5.length c0_5, .slice A0_6 l0_6.length c0_6, .slice A0_7 l0_7.length c0_7]) (t := 46) ?hr ?_; (case hd => rfl); (case hg => rfl); (case hr => first | (go_simp; done) | (go_simp; rfl)); intro gb437 hg w54 hbox hb; have n0_ := Aside0.mk (below_step (by repeat (first | (with_reducible first | exact HB.out | apply below_alloc | apply pw_below_drewN | apply below_drew1) | exact HB.out)) hb); have n1_ := Aside0.mk (hbox); have n2_ := Aside0.mk ((by rw [hg]; exact (below_size (by repeat (first | (with_reducible first | exact HB.out | apply below_alloc | apply pw_below_drewN | apply below_drew1) | exact HB.out))) : w.heap.size ≤ gb437)); have n3_ := Aside0.mk ((by rw [hg]; exact (below_size (by repeat (first | (with_reducible first | exact HB.out | apply below_alloc | apply pw_below_drewN | apply below_drew1) | exact HB.out))) : w.heap.size ≤ gb437)); clear HB; have HB := n0_; have BK437 := n1_; have GW437 := n2_; have GE437 := n3_; clear n0_ n1_ n2_ n3_; clear hb hbox hg) | ((with_reducible refine gate_dst (N := 3) rfl ?_); refine box_event ?hg (N := 3) ?hd (cs := #[.int .i64 a1_0, .int .i64 a1_1, .slice A1_2 l1_2.length c1_2, .int .i64 a1_3, .int .i64 a1_4, .slice A1_5 l1_5.length c1_5, .slice A1_6 l1_6.length c1_6, .slice A1_7 l1_7.length c1_7]) (t := 46) ?hr ?_; (case hd => rfl); (case hg => rfl); (case hr => first | (go_simp; done) | (go_simp; rfl)); intro gb438 hg w55 hbox hb; have n0_ := Aside0.mk (blk_below (g := gb437) (o := .cells #[.int .i64 a0_0, .int .i64 a0_1, .slice A0_2 l0_2.length c0_2, .int .i64 a0_3, .int .i64 a0_4, .slice A0_5 l0_5.length c0_5, .slice A0_6 l0_6.length c0_6, .slice A0_7 l0_7.length c0_7] 46 (0, 0)) (by (with_reducible repeat (first | refine blk_drewN ?_ _ | refine blk_drew ?_ | refine blk_alloc ?_ _)); exact BK437.out) hb); have n1_ := Aside0.mk (below_step (by repeat (first | (with_reducible first | exact HB.out | apply below_alloc | apply pw_below_drewN | apply below_drew1 | refine below_set ?_ GE437.out) | exact HB.out)) hb); have n2_ := Aside0.mk (hbox); have n3_ := Aside0.mk ((by rw [hg]; exact (below_size (by repeat (first | (with_reducible first | exact HB.out | apply below_alloc | apply pw_below_drewN | apply below_drew1 | refine below_set ?_ GE437.out) | exact HB.out))) : w.heap.size ≤ gb438)); have n4_ := Aside0.mk ((by rw [hg]; exact (below_size (by repeat (first | (with_reducible first | exact HB.out | apply below_alloc | apply pw_below_drewN | apply below_drew1 | refine below_set ?_ GE437.out) | exact HB.out))) : w.heap.size ≤ gb438)); have n5_ := Aside0.mk ((by rw [hg]; exact Nat.ne_of_lt (blk_lt (g := gb437) (o := .cells #[.int .i64 a0_0, .int .i64 a0_1, .slice A0_2 l0_2.length c0_2, .int .i64 a0_3, .int .i64 a0_4, .slice A0_5 l0_5.length c0_5, .slice A0_6 l0_6.length c0_6, .slice A0_7 l0_7.length c0_7] 46 (0, 0)) (by (with_reducible repeat (first | refine blk_drewN ?_ _ | refine blk_drew ?_ | refine blk_alloc ?_ _)); exact BK437.out)) : gb437 ≠ gb438)); have n6_ := Aside0.mk ((by rw [hg]; exact Nat.ne_of_gt (blk_lt (g := gb437) (o := .cells #[.int .i64 a0_0, .int .i64 a0_1, .slice A0_2 l0_2.length c0_2, .int .i64 a0_3, .int .i64 a0_4, .slice A0_5 l0_5.length c0_5, .slice A0_6 l0_6.length c0_6, .slice A0_7 l0_7.length c0_7] 46 (0, 0)) (by (with_reducible repeat (first | refine blk_drewN ?_ _ | refine blk_drew ?_ | refine blk_alloc ?_ _)); exact BK437.out)) : gb438 ≠ gb437)); clear BK437; clear HB; have BK437 := n0_; have HB := n1_; have BK438 := n2_; have GW438 := n3_; have GE438 := n4_; have NB437_438 := n5_; have NB438_437 := n6_; clear n0_ n1_ n2_ n3_ n4_ n5_ n6_; clear hb hbox hg; have hnb56 := NB437_438.out; have hnc56 := NB438_437.out; have hcz57_0 : w55.cell? ⟨gb437, 0, none⟩ = some (.int .i64 a0_0) := (blk_cell BK437.out 0).trans rfl; have hcz57_1 : w55.cell? ⟨gb437, 1, none⟩ = some (.int .i64 a0_1) := (blk_cell BK437.out 1).trans rfl; have hcz57_2 : w55.cell? ⟨gb437, 2, none⟩ = some (.slice A0_2 l0_2.length c0_2) := (blk_cell BK437.out 2).trans rfl; have hcz57_3 : w55.cell? ⟨gb437, 3, none⟩ = some (.int .i64 a0_3) := (blk_cell BK437.out 3).trans rfl; have hcz57_4 : w55.cell? ⟨gb437, 4, none⟩ = some (.int .i64 a0_4) := (blk_cell BK437.out 4).trans rfl; have hcz57_5 : w55.cell? ⟨gb437, 5, none⟩ = some (.slice A0_5 l0_5.length c0_5) := (blk_cell BK437.out 5).trans rfl; have hcz57_6 : w55.cell? ⟨gb437, 6, none⟩ = some (.slice A0_6 l0_6.length c0_6) := (blk_cell BK437.out 6).trans rfl; have hcz57_7 : w55.cell? ⟨gb437, 7, none⟩ = some (.slice A0_7 l0_7.length c0_7) := (blk_cell BK437.out 7).trans rfl; have hfz57_0 := blk_frozen BK437.out 0; have hfz57_1 := blk_frozen BK437.out 1; have hfz57_2 := blk_frozen BK437.out 2; have hfz57_3 := blk_frozen BK437.out 3; have hfz57_4 := blk_frozen BK437.out 4; have hfz57_5 := blk_frozen BK437.out 5; have hfz57_6 := blk_frozen BK437.out 6; have hfz57_7 := blk_frozen BK437.out 7; have hcz58_0 : w55.cell? ⟨gb438, 0, none⟩ = some (.int .i64 a1_0) := (blk_cell BK438.out 0).trans rfl; have hcz58_1 : w55.cell? ⟨gb438, 1, none⟩ = some (.int .i64 a1_1) := (blk_cell BK438.out 1).trans rfl; have hcz58_2 : w55.cell? ⟨gb438, 2, none⟩ = some (.slice A1_2 l1_2.length c1_2) := (blk_cell BK438.out 2).trans rfl; have hcz58_3 : w55.cell? ⟨gb438, 3, none⟩ = some (.int .i64 a1_3) := (blk_cell BK438.out 3).trans rfl; have hcz58_4 : w55.cell? ⟨gb438, 4, none⟩ = some (.int .i64 a1_4) := (blk_cell BK438.out 4).trans rfl; have hcz58_5 : w55.cell? ⟨gb438, 5, none⟩ = some (.slice A1_5 l1_5.length c1_5) := (blk_cell BK438.out 5).trans rfl; have hcz58_6 : w55.cell? ⟨gb438, 6, none⟩ = some (.slice A1_6 l1_6.length c1_6) := (blk_cell BK438.out 6).trans rfl; have hcz58_7 : w55.cell? ⟨gb438, 7, none⟩ = some (.slice A1_7 l1_7.length c1_7) := (blk_cell BK438.out 7).trans rfl; have hfz58_0 := blk_frozen BK438.out 0; have hfz58_1 := blk_frozen BK438.out 1; have hfz58_2 := blk_frozen BK438.out 2; have hfz58_3 := blk_frozen BK438.out 3; have hfz58_4 := blk_frozen BK438.out 4; have hfz58_5 := blk_frozen BK438.out 5; have hfz58_6 := blk_frozen BK438.out 6; have hfz58_7 := blk_frozen BK438.out 7) | ((with_reducible refine gate_callee (f := 65) rfl ?_); refine goesL_ (some 19) rfl rfl Try.func65 (by kernel_rfl) rfl #[.slice A0_2 l0_2.length c0_2, .slice A1_2 l1_2.length c1_2] rfl (by (try simp only [List.map_toArray, List.map_cons, List.map_nil]); first | done | rfl | (simp only [List.length_drop, List.length_take]; rfl)) ?_; (with_reducible refine (laws_eqIntS.calls k _ _ l0_2 _ _ l1_2 true _ ?side1 ?side2 ?side3 ?side4 A5.out).mono ?_); (case side1 => repeat (first | exact (Kd.C_below HR0_2.out HB.out) | (with_reducible refine Kd.C_alloc ?_ _) | (with_reducible refine Kd.C_drewN ?_ _) | (with_reducible refine Kd.C_drew ?_))); (case side2 => exact HC0_2.out); (case side3 => repeat (first | exact (Kd.C_below HR1_2.out HB.out) | (with_reducible refine Kd.C_alloc ?_ _) | (with_reducible refine Kd.C_drewN ?_ _) | (with_reducible refine Kd.C_drew ?_))); (case side4 => exact HC1_2.out); rintro e w' ⟨rfl, ⟨nd, rfl⟩⟩; refine ⟨_, rfl, ?_⟩))
            go_ret
            exact ⟨by first | rfl | (simp [errW_none, errW_some] <;> rfl) | (simp [*, errW_none, errW_some] <;> rfl), by repeat (first | (with_reducible first | exact HB.out | apply below_alloc | apply pw_below_drewN | apply below_drew1 | refine below_set ?_ GE437.out | refine below_set ?_ GE438.out) | exact HB.out)⟩
        · rw [if_neg c7] at H
          have c7b0 : (a0_3 == a1_3) = false := beq_eq_false_iff_ne.mpr c7
          have c7b1 : (a0_3 != a1_3) = true := bne_iff_ne.mpr c7
          obtain rfl := Option.some.inj H
          simp only [Option.some.injEq, Prod.mk.injEq] at H
          obtain ⟨rfl⟩ := H
          go_enter Try.func49, Try.ntmps49
          go_wp2_with (first | ((with_reducible refine gate_dst (N := 2) rfl ?_); refine box_event ?hg (N := 2) ?hd (cs := #[.int .i64 a0_0, .int .i64 a0_1, .slice A0_2 l0_2.length c0_2, .int .i64 a0_3, .int .i64 a0_4, .slice A0_5 l0_5.length c0_5, .slice A0_6 l0_6.length c0_6, .slice A0_7 l0_7.length c0_7]) (t := 46) ?hr ?_; (case hd => rfl); (case hg => rfl); (case hr => first | (go_simp; done) | (go_simp; rfl)); intro gb437 hg w59 hbox hb; have n0_ := Aside0.mk (below_step (by repeat (first | (with_reducible first | exact HB.out | apply below_alloc | apply pw_below_drewN | apply below_drew1) | exact HB.out)) hb); have n1_ := Aside0.mk (hbox); have n2_ := Aside0.mk ((by rw [hg]; exact (below_size (by repeat (first | (with_reducible first | exact HB.out | apply below_alloc | apply pw_below_drewN | apply below_drew1) | exact HB.out))) : w.heap.size ≤ gb437)); have n3_ := Aside0.mk ((by rw [hg]; exact (below_size (by repeat (first | (with_reducible first | exact HB.out | apply below_alloc | apply pw_below_drewN | apply below_drew1) | exact HB.out))) : w.heap.size ≤ gb437)); clear HB; have HB := n0_; have BK437 := n1_; have GW437 := n2_; have GE437 := n3_; clear n0_ n1_ n2_ n3_; clear hb hbox hg) | ((with_reducible refine gate_dst (N := 3) rfl ?_); refine box_event ?hg (N := 3) ?hd (cs := #[.int .i64 a1_0, .int .i64 a1_1, .slice A1_2 l1_2.length c1_2, .int .i64 a1_3, .int .i64 a1_4, .slice A1_5 l1_5.length c1_5, .slice A1_6 l1_6.length c1_6, .slice A1_7 l1_7.length c1_7]) (t := 46) ?hr ?_; (case hd => rfl); (case hg => rfl); (case hr => first | (go_simp; done) | (go_simp; rfl)); intro gb438 hg w60 hbox hb; have n0_ := Aside0.mk (blk_below (g := gb437) (o := .cells #[.int .i64 a0_0, .int .i64 a0_1, .slice A0_2 l0_2.length c0_2, .int .i64 a0_3, .int .i64 a0_4, .slice A0_5 l0_5.length c0_5, .slice A0_6 l0_6.length c0_6, .slice A0_7 l0_7.length c0_7] 46 (0, 0)) (by (with_reducible repeat (first | refine blk_drewN ?_ _ | refine blk_drew ?_ | refine blk_alloc ?_ _)); exact BK437.out) hb); have n1_ := Aside0.mk (below_step (by repeat (first | (with_reducible first | exact HB.out | apply below_alloc | apply pw_below_drewN | apply below_drew1 | refine below_set ?_ GE437.out) | exact HB.out)) hb); have n2_ := Aside0.mk (hbox); have n3_ := Aside0.mk ((by rw [hg]; exact (below_size (by repeat (first | (with_reducible first | exact HB.out | apply below_alloc | apply pw_below_drewN | apply below_drew1 | refine below_set ?_ GE437.out) | exact HB.out))) : w.heap.size ≤ gb438)); have n4_ := Aside0.mk ((by rw [hg]; exact (below_size (by repeat (first | (with_reducible first | exact HB.out | apply below_alloc | apply pw_below_drewN | apply below_drew1 | refine below_set ?_ GE437.out) | exact HB.out))) : w.heap.size ≤ gb438)); have n5_ := Aside0.mk ((by rw [hg]; exact Nat.ne_of_lt (blk_lt (g := gb437) (o := .cells #[.int .i64 a0_0, .int .i64 a0_1, .slice A0_2 l0_2.length c0_2, .int .i64 a0_3, .int .i64 a0_4, .slice A0_5 l0_5.length c0_5, .slice A0_6 l0_6.length c0_6, .slice A0_7 l0_7.length c0_7] 46 (0, 0)) (by (with_reducible repeat (first | refine blk_drewN ?_ _ | refine blk_drew ?_ | refine blk_alloc ?_ _)); exact BK437.out)) : gb437 ≠ gb438)); have n6_ := Aside0.mk ((by rw [hg]; exact Nat.ne_of_gt (blk_lt (g := gb437) (o := .cells #[.int .i64 a0_0, .int .i64 a0_1, .slice A0_2 l0_2.length c0_2, .int .i64 a0_3, .int .i64 a0_4, .slice A0_5 l0_5.length c0_5, .slice A0_6 l0_6.length c0_6, .slice A0_7 l0_7.length c0_7] 46 (0, 0)) (by (with_reducible repeat (first | refine blk_drewN ?_ _ | refine blk_drew ?_ | refine blk_alloc ?_ _)); exact BK437.out)) : gb438 ≠ gb437)); clear BK437; clear HB; have BK437 := n0_; have HB := n1_; have BK438 := n2_; have GW438 := n3_; have GE438 := n4_; have NB437_438 := n5_; have NB438_437 := n6_; clear n0_ n1_ n2_ n3_ n4_ n5_ n6_; clear hb hbox hg; have hnb61 := NB437_438.out; have hnc61 := NB438_437.out; have hcz62_0 : w60.cell? ⟨gb437, 0, none⟩ = some (.int .i64 a0_0) := (blk_cell BK437.out 0).trans rfl; have hcz62_1 : w60.cell? ⟨gb437, 1, none⟩ = some (.int .i64 a0_1) := (blk_cell BK437.out 1).trans rfl; have hcz62_2 : w60.cell? ⟨gb437, 2, none⟩ = some (.slice A0_2 l0_2.length c0_2) := (blk_cell BK437.out 2).trans rfl; have hcz62_3 : w60.cell? ⟨gb437, 3, none⟩ = some (.int .i64 a0_3) := (blk_cell BK437.out 3).trans rfl; have hcz62_4 : w60.cell? ⟨gb437, 4, none⟩ = some (.int .i64 a0_4) := (blk_cell BK437.out 4).trans rfl; have hcz62_5 : w60.cell? ⟨gb437, 5, none⟩ = some (.slice A0_5 l0_5.length c0_5) := (blk_cell BK437.out 5).trans rfl; have hcz62_6 : w60.cell? ⟨gb437, 6, none⟩ = some (.slice A0_6 l0_6.length c0_6) := (blk_cell BK437.out 6).trans rfl; have hcz62_7 : w60.cell? ⟨gb437, 7, none⟩ = some (.slice A0_7 l0_7.length c0_7) := (blk_cell BK437.out 7).trans rfl; have hfz62_0 := blk_frozen BK437.out 0; have hfz62_1 := blk_frozen BK437.out 1; have hfz62_2 := blk_frozen BK437.out 2; have hfz62_3 := blk_frozen BK437.out 3; have hfz62_4 := blk_frozen BK437.out 4; have hfz62_5 := blk_frozen BK437.out 5; have hfz62_6 := blk_frozen BK437.out 6; have hfz62_7 := blk_frozen BK437.out 7; have hcz63_0 : w60.cell? ⟨gb438, 0, none⟩ = some (.int .i64 a1_0) := (blk_cell BK438.out 0).trans rfl; have hcz63_1 : w60.cell? ⟨gb438, 1, none⟩ = some (.int .i64 a1_1) := (blk_cell BK438.out 1).trans rfl; have hcz63_2 : w60.cell? ⟨gb438, 2, none⟩ = some (.slice A1_2 l1_2.length c1_2) := (blk_cell BK438.out 2).trans rfl; have hcz63_3 : w60.cell? ⟨gb438, 3, none⟩ = some (.int .i64 a1_3) := (blk_cell BK438.out 3).trans rfl; have hcz63_4 : w60.cell? ⟨gb438, 4, none⟩ = some (.int .i64 a1_4) := (blk_cell BK438.out 4).trans rfl; have hcz63_5 : w60.cell? ⟨gb438, 5, none⟩ = some (.slice A1_5 l1_5.length c1_5) := (blk_cell BK438.out 5).trans rfl; have hcz63_6 : w60.cell? ⟨gb438, 6, none⟩ = some (.slice A1_6 l1_6.length c1_6) := (blk_cell BK438.out 6).trans rfl; have hcz63_7 : w60.cell? ⟨gb438, 7, none⟩ = some (.slice A1_7 l1_7.length c1_7) := (blk_cell BK438.out 7).trans rfl; have hfz63_0 := blk_frozen BK438.out 0; have hfz63_1 := blk_frozen BK438.out 1; have hfz63_2 := blk_frozen BK438.out 2; have hfz63_3 := blk_frozen BK438.out 3; have hfz63_4 := blk_frozen BK438.out 4; have hfz63_5 := blk_frozen BK438.out 5; have hfz63_6 := blk_frozen BK438.out 6; have hfz63_7 := blk_frozen BK438.out 7) | ((with_reducible refine gate_callee (f := 65) rfl ?_); refine goesL_ (some 19) rfl rfl Try.func65 (by kernel_rfl) rfl #[.slice A0_2 l0_2.length c0_2, .slice A1_2 l1_2.length c1_2] rfl (by (try simp only [List.map_toArray, List.map_cons, List.map_nil]); first | done | rfl | (simp only [List.length_drop, List.length_take]; rfl)) ?_; (with_reducible refine (laws_eqIntS.calls k _ _ l0_2 _ _ l1_2 true _ ?side1 ?side2 ?side3 ?side4 A5.out).mono ?_); (case side1 => repeat (first | exact (Kd.C_below HR0_2.out HB.out) | (with_reducible refine Kd.C_alloc ?_ _) | (with_reducible refine Kd.C_drewN ?_ _) | (with_reducible refine Kd.C_drew ?_))); (case side2 => exact HC0_2.out); (case side3 => repeat (first | exact (Kd.C_below HR1_2.out HB.out) | (with_reducible refine Kd.C_alloc ?_ _) | (with_reducible refine Kd.C_drewN ?_ _) | (with_reducible refine Kd.C_drew ?_))); (case side4 => exact HC1_2.out); rintro e w' ⟨rfl, ⟨nd, rfl⟩⟩; refine ⟨_, rfl, ?_⟩))
          go_ret
          exact ⟨by first | rfl | (simp [errW_none, errW_some] <;> rfl) | (simp [*, errW_none, errW_some] <;> rfl), by repeat (first | (with_reducible first | exact HB.out | apply below_alloc | apply pw_below_drewN | apply below_drew1 | refine below_set ?_ GE437.out | refine below_set ?_ GE438.out) | exact HB.out)⟩
      · replace c6 := Bool.eq_false_iff.mpr c6
        subst c6
        have H1 : (some false) = some r := by rw [if_neg (show ¬ (false = true) by decide)] at H; exact H
        clear H
        have H := H1
        clear H1
        obtain rfl := Option.some.inj H
        simp only [Option.some.injEq, Prod.mk.injEq] at H
        obtain ⟨rfl⟩ := H
        go_enter Try.func49, Try.ntmps49
        go_wp2_with (first | ((with_reducible refine gate_dst (N := 2) rfl ?_); refine box_event ?hg (N := 2) ?hd (cs := #[.int .i64 a0_0, .int .i64 a0_1, .slice A0_2 l0_2.length c0_2, .int .i64 a0_3, .int .i64 a0_4, .slice A0_5 l0_5.length c0_5, .slice A0_6 l0_6.length c0_6, .slice A0_7 l0_7.length c0_7]) (t := 46) ?hr ?_; (case hd => rfl); (case hg => rfl); (case hr => first | (go_simp; done) | (go_simp; rfl)); intro gb437 hg w64 hbox hb; have n0_ := Aside0.mk (below_step (by repeat (first | (with_reducible first | exact HB.out | apply below_alloc | apply pw_below_drewN | apply below_drew1) | exact HB.out)) hb); have n1_ := Aside0.mk (hbox); have n2_ := Aside0.mk ((by rw [hg]; exact (below_size (by repeat (first | (with_reducible first | exact HB.out | apply below_alloc | apply pw_below_drewN | apply below_drew1) | exact HB.out))) : w.heap.size ≤ gb437)); have n3_ := Aside0.mk ((by rw [hg]; exact (below_size (by repeat (first | (with_reducible first | exact HB.out | apply below_alloc | apply pw_below_drewN | apply below_drew1) | exact HB.out))) : w.heap.size ≤ gb437)); clear HB; have HB := n0_; have BK437 := n1_; have GW437 := n2_; have GE437 := n3_; clear n0_ n1_ n2_ n3_; clear hb hbox hg) | ((with_reducible refine gate_dst (N := 3) rfl ?_); refine box_event ?hg (N := 3) ?hd (cs := #[.int .i64 a1_0, .int .i64 a1_1, .slice A1_2 l1_2.length c1_2, .int .i64 a1_3, .int .i64 a1_4, .slice A1_5 l1_5.length c1_5, .slice A1_6 l1_6.length c1_6, .slice A1_7 l1_7.length c1_7]) (t := 46) ?hr ?_; (case hd => rfl); (case hg => rfl); (case hr => first | (go_simp; done) | (go_simp; rfl)); intro gb438 hg w65 hbox hb; have n0_ := Aside0.mk (blk_below (g := gb437) (o := .cells #[.int .i64 a0_0, .int .i64 a0_1, .slice A0_2 l0_2.length c0_2, .int .i64 a0_3, .int .i64 a0_4, .slice A0_5 l0_5.length c0_5, .slice A0_6 l0_6.length c0_6, .slice A0_7 l0_7.length c0_7] 46 (0, 0)) (by (with_reducible repeat (first | refine blk_drewN ?_ _ | refine blk_drew ?_ | refine blk_alloc ?_ _)); exact BK437.out) hb); have n1_ := Aside0.mk (below_step (by repeat (first | (with_reducible first | exact HB.out | apply below_alloc | apply pw_below_drewN | apply below_drew1 | refine below_set ?_ GE437.out) | exact HB.out)) hb); have n2_ := Aside0.mk (hbox); have n3_ := Aside0.mk ((by rw [hg]; exact (below_size (by repeat (first | (with_reducible first | exact HB.out | apply below_alloc | apply pw_below_drewN | apply below_drew1 | refine below_set ?_ GE437.out) | exact HB.out))) : w.heap.size ≤ gb438)); have n4_ := Aside0.mk ((by rw [hg]; exact (below_size (by repeat (first | (with_reducible first | exact HB.out | apply below_alloc | apply pw_below_drewN | apply below_drew1 | refine below_set ?_ GE437.out) | exact HB.out))) : w.heap.size ≤ gb438)); have n5_ := Aside0.mk ((by rw [hg]; exact Nat.ne_of_lt (blk_lt (g := gb437) (o := .cells #[.int .i64 a0_0, .int .i64 a0_1, .slice A0_2 l0_2.length c0_2, .int .i64 a0_3, .int .i64 a0_4, .slice A0_5 l0_5.length c0_5, .slice A0_6 l0_6.length c0_6, .slice A0_7 l0_7.length c0_7] 46 (0, 0)) (by (with_reducible repeat (first | refine blk_drewN ?_ _ | refine blk_drew ?_ | refine blk_alloc ?_ _)); exact BK437.out)) : gb437 ≠ gb438)); have n6_ := Aside0.mk ((by rw [hg]; exact Nat.ne_of_gt (blk_lt (g := gb437) (o := .cells #[.int .i64 a0_0, .int .i64 a0_1, .slice A0_2 l0_2.length c0_2, .int .i64 a0_3, .int .i64 a0_4, .slice A0_5 l0_5.length c0_5, .slice A0_6 l0_6.length c0_6, .slice A0_7 l0_7.length c0_7] 46 (0, 0)) (by (with_reducible repeat (first | refine blk_drewN ?_ _ | refine blk_drew ?_ | refine blk_alloc ?_ _)); exact BK437.out)) : gb438 ≠ gb437)); clear BK437; clear HB; have BK437 := n0_; have HB := n1_; have BK438 := n2_; have GW438 := n3_; have GE438 := n4_; have NB437_438 := n5_; have NB438_437 := n6_; clear n0_ n1_ n2_ n3_ n4_ n5_ n6_; clear hb hbox hg; have hnb66 := NB437_438.out; have hnc66 := NB438_437.out; have hcz67_0 : w65.cell? ⟨gb437, 0, none⟩ = some (.int .i64 a0_0) := (blk_cell BK437.out 0).trans rfl; have hcz67_1 : w65.cell? ⟨gb437, 1, none⟩ = some (.int .i64 a0_1) := (blk_cell BK437.out 1).trans rfl; have hcz67_2 : w65.cell? ⟨gb437, 2, none⟩ = some (.slice A0_2 l0_2.length c0_2) := (blk_cell BK437.out 2).trans rfl; have hcz67_3 : w65.cell? ⟨gb437, 3, none⟩ = some (.int .i64 a0_3) := (blk_cell BK437.out 3).trans rfl; have hcz67_4 : w65.cell? ⟨gb437, 4, none⟩ = some (.int .i64 a0_4) := (blk_cell BK437.out 4).trans rfl; have hcz67_5 : w65.cell? ⟨gb437, 5, none⟩ = some (.slice A0_5 l0_5.length c0_5) := (blk_cell BK437.out 5).trans rfl; have hcz67_6 : w65.cell? ⟨gb437, 6, none⟩ = some (.slice A0_6 l0_6.length c0_6) := (blk_cell BK437.out 6).trans rfl; have hcz67_7 : w65.cell? ⟨gb437, 7, none⟩ = some (.slice A0_7 l0_7.length c0_7) := (blk_cell BK437.out 7).trans rfl; have hfz67_0 := blk_frozen BK437.out 0; have hfz67_1 := blk_frozen BK437.out 1; have hfz67_2 := blk_frozen BK437.out 2; have hfz67_3 := blk_frozen BK437.out 3; have hfz67_4 := blk_frozen BK437.out 4; have hfz67_5 := blk_frozen BK437.out 5; have hfz67_6 := blk_frozen BK437.out 6; have hfz67_7 := blk_frozen BK437.out 7; have hcz68_0 : w65.cell? ⟨gb438, 0, none⟩ = some (.int .i64 a1_0) := (blk_cell BK438.out 0).trans rfl; have hcz68_1 : w65.cell? ⟨gb438, 1, none⟩ = some (.int .i64 a1_1) := (blk_cell BK438.out 1).trans rfl; have hcz68_2 : w65.cell? ⟨gb438, 2, none⟩ = some (.slice A1_2 l1_2.length c1_2) := (blk_cell BK438.out 2).trans rfl; have hcz68_3 : w65.cell? ⟨gb438, 3, none⟩ = some (.int .i64 a1_3) := (blk_cell BK438.out 3).trans rfl; have hcz68_4 : w65.cell? ⟨gb438, 4, none⟩ = some (.int .i64 a1_4) := (blk_cell BK438.out 4).trans rfl; have hcz68_5 : w65.cell? ⟨gb438, 5, none⟩ = some (.slice A1_5 l1_5.length c1_5) := (blk_cell BK438.out 5).trans rfl; have hcz68_6 : w65.cell? ⟨gb438, 6, none⟩ = some (.slice A1_6 l1_6.length c1_6) := (blk_cell BK438.out 6).trans rfl; have hcz68_7 : w65.cell? ⟨gb438, 7, none⟩ = some (.slice A1_7 l1_7.length c1_7) := (blk_cell BK438.out 7).trans rfl; have hfz68_0 := blk_frozen BK438.out 0; have hfz68_1 := blk_frozen BK438.out 1; have hfz68_2 := blk_frozen BK438.out 2; have hfz68_3 := blk_frozen BK438.out 3; have hfz68_4 := blk_frozen BK438.out 4; have hfz68_5 := blk_frozen BK438.out 5; have hfz68_6 := blk_frozen BK438.out 6; have hfz68_7 := blk_frozen BK438.out 7) | ((with_reducible refine gate_callee (f := 65) rfl ?_); refine goesL_ (some 19) rfl rfl Try.func65 (by kernel_rfl) rfl #[.slice A0_2 l0_2.length c0_2, .slice A1_2 l1_2.length c1_2] rfl (by (try simp only [List.map_toArray, List.map_cons, List.map_nil]); first | done | rfl | (simp only [List.length_drop, List.length_take]; rfl)) ?_; (with_reducible refine (laws_eqIntS.calls k _ _ l0_2 _ _ l1_2 false _ ?side1 ?side2 ?side3 ?side4 A5.out).mono ?_); (case side1 => repeat (first | exact (Kd.C_below HR0_2.out HB.out) | (with_reducible refine Kd.C_alloc ?_ _) | (with_reducible refine Kd.C_drewN ?_ _) | (with_reducible refine Kd.C_drew ?_))); (case side2 => exact HC0_2.out); (case side3 => repeat (first | exact (Kd.C_below HR1_2.out HB.out) | (with_reducible refine Kd.C_alloc ?_ _) | (with_reducible refine Kd.C_drewN ?_ _) | (with_reducible refine Kd.C_drew ?_))); (case side4 => exact HC1_2.out); rintro e w' ⟨rfl, ⟨nd, rfl⟩⟩; refine ⟨_, rfl, ?_⟩))
        go_ret
        exact ⟨by first | rfl | (simp [errW_none, errW_some] <;> rfl) | (simp [*, errW_none, errW_some] <;> rfl), by repeat (first | (with_reducible first | exact HB.out | apply below_alloc | apply pw_below_drewN | apply below_drew1 | refine below_set ?_ GE437.out | refine below_set ?_ GE438.out) | exact HB.out)⟩
    · rw [if_neg c4] at H
      have c4b0 : (a0_1 == a1_1) = false := beq_eq_false_iff_ne.mpr c4
      have c4b1 : (a0_1 != a1_1) = true := bne_iff_ne.mpr c4
      obtain rfl := Option.some.inj H
      simp only [Option.some.injEq, Prod.mk.injEq] at H
      obtain ⟨rfl⟩ := H
      go_enter Try.func49, Try.ntmps49
      go_wp2_with (first | ((with_reducible refine gate_dst (N := 2) rfl ?_); refine box_event ?hg (N := 2) ?hd (cs := #[.int .i64 a0_0, .int .i64 a0_1, .slice A0_2 l0_2.length c0_2, .int .i64 a0_3, .int .i64 a0_4, .slice A0_5 l0_5.length c0_5, .slice A0_6 l0_6.length c0_6, .slice A0_7 l0_7.length c0_7]) (t := 46) ?hr ?_; (case hd => rfl); (case hg => rfl); (case hr => first | (go_simp; done) | (go_simp; rfl)); intro gb437 hg w69 hbox hb; have n0_ := Aside0.mk (below_step (by repeat (first | (with_reducible first | exact HB.out | apply below_alloc | apply pw_below_drewN | apply below_drew1) | exact HB.out)) hb); have n1_ := Aside0.mk (hbox); have n2_ := Aside0.mk ((by rw [hg]; exact (below_size (by repeat (first | (with_reducible first | exact HB.out | apply below_alloc | apply pw_below_drewN | apply below_drew1) | exact HB.out))) : w.heap.size ≤ gb437)); have n3_ := Aside0.mk ((by rw [hg]; exact (below_size (by repeat (first | (with_reducible first | exact HB.out | apply below_alloc | apply pw_below_drewN | apply below_drew1) | exact HB.out))) : w.heap.size ≤ gb437)); clear HB; have HB := n0_; have BK437 := n1_; have GW437 := n2_; have GE437 := n3_; clear n0_ n1_ n2_ n3_; clear hb hbox hg) | ((with_reducible refine gate_dst (N := 3) rfl ?_); refine box_event ?hg (N := 3) ?hd (cs := #[.int .i64 a1_0, .int .i64 a1_1, .slice A1_2 l1_2.length c1_2, .int .i64 a1_3, .int .i64 a1_4, .slice A1_5 l1_5.length c1_5, .slice A1_6 l1_6.length c1_6, .slice A1_7 l1_7.length c1_7]) (t := 46) ?hr ?_; (case hd => rfl); (case hg => rfl); (case hr => first | (go_simp; done) | (go_simp; rfl)); intro gb438 hg w70 hbox hb; have n0_ := Aside0.mk (blk_below (g := gb437) (o := .cells #[.int .i64 a0_0, .int .i64 a0_1, .slice A0_2 l0_2.length c0_2, .int .i64 a0_3, .int .i64 a0_4, .slice A0_5 l0_5.length c0_5, .slice A0_6 l0_6.length c0_6, .slice A0_7 l0_7.length c0_7] 46 (0, 0)) (by (with_reducible repeat (first | refine blk_drewN ?_ _ | refine blk_drew ?_ | refine blk_alloc ?_ _)); exact BK437.out) hb); have n1_ := Aside0.mk (below_step (by repeat (first | (with_reducible first | exact HB.out | apply below_alloc | apply pw_below_drewN | apply below_drew1 | refine below_set ?_ GE437.out) | exact HB.out)) hb); have n2_ := Aside0.mk (hbox); have n3_ := Aside0.mk ((by rw [hg]; exact (below_size (by repeat (first | (with_reducible first | exact HB.out | apply below_alloc | apply pw_below_drewN | apply below_drew1 | refine below_set ?_ GE437.out) | exact HB.out))) : w.heap.size ≤ gb438)); have n4_ := Aside0.mk ((by rw [hg]; exact (below_size (by repeat (first | (with_reducible first | exact HB.out | apply below_alloc | apply pw_below_drewN | apply below_drew1 | refine below_set ?_ GE437.out) | exact HB.out))) : w.heap.size ≤ gb438)); have n5_ := Aside0.mk ((by rw [hg]; exact Nat.ne_of_lt (blk_lt (g := gb437) (o := .cells #[.int .i64 a0_0, .int .i64 a0_1, .slice A0_2 l0_2.length c0_2, .int .i64 a0_3, .int .i64 a0_4, .slice A0_5 l0_5.length c0_5, .slice A0_6 l0_6.length c0_6, .slice A0_7 l0_7.length c0_7] 46 (0, 0)) (by (with_reducible repeat (first | refine blk_drewN ?_ _ | refine blk_drew ?_ | refine blk_alloc ?_ _)); exact BK437.out)) : gb437 ≠ gb438)); have n6_ := Aside0.mk ((by rw [hg]; exact Nat.ne_of_gt (blk_lt (g := gb437) (o := .cells #[.int .i64 a0_0, .int .i64 a0_1, .slice A0_2 l0_2.length c0_2, .int .i64 a0_3, .int .i64 a0_4, .slice A0_5 l0_5.length c0_5, .slice A0_6 l0_6.length c0_6, .slice A0_7 l0_7.length c0_7] 46 (0, 0)) (by (with_reducible repeat (first | refine blk_drewN ?_ _ | refine blk_drew ?_ | refine blk_alloc ?_ _)); exact BK437.out)) : gb438 ≠ gb437)); clear BK437; clear HB; have BK437 := n0_; have HB := n1_; have BK438 := n2_; have GW438 := n3_; have GE438 := n4_; have NB437_438 := n5_; have NB438_437 := n6_; clear n0_ n1_ n2_ n3_ n4_ n5_ n6_; clear hb hbox hg; have hnb71 := NB437_438.out; have hnc71 := NB438_437.out; have hcz72_0 : w70.cell? ⟨gb437, 0, none⟩ = some (.int .i64 a0_0) := (blk_cell BK437.out 0).trans rfl; have hcz72_1 : w70.cell? ⟨gb437, 1, none⟩ = some (.int .i64 a0_1) := (blk_cell BK437.out 1).trans rfl; have hcz72_2 : w70.cell? ⟨gb437, 2, none⟩ = some (.slice A0_2 l0_2.length c0_2) := (blk_cell BK437.out 2).trans rfl; have hcz72_3 : w70.cell? ⟨gb437, 3, none⟩ = some (.int .i64 a0_3) := (blk_cell BK437.out 3).trans rfl; have hcz72_4 : w70.cell? ⟨gb437, 4, none⟩ = some (.int .i64 a0_4) := (blk_cell BK437.out 4).trans rfl; have hcz72_5 : w70.cell? ⟨gb437, 5, none⟩ = some (.slice A0_5 l0_5.length c0_5) := (blk_cell BK437.out 5).trans rfl; have hcz72_6 : w70.cell? ⟨gb437, 6, none⟩ = some (.slice A0_6 l0_6.length c0_6) := (blk_cell BK437.out 6).trans rfl; have hcz72_7 : w70.cell? ⟨gb437, 7, none⟩ = some (.slice A0_7 l0_7.length c0_7) := (blk_cell BK437.out 7).trans rfl; have hfz72_0 := blk_frozen BK437.out 0; have hfz72_1 := blk_frozen BK437.out 1; have hfz72_2 := blk_frozen BK437.out 2; have hfz72_3 := blk_frozen BK437.out 3; have hfz72_4 := blk_frozen BK437.out 4; have hfz72_5 := blk_frozen BK437.out 5; have hfz72_6 := blk_frozen BK437.out 6; have hfz72_7 := blk_frozen BK437.out 7; have hcz73_0 : w70.cell? ⟨gb438, 0, none⟩ = some (.int .i64 a1_0) := (blk_cell BK438.out 0).trans rfl; have hcz73_1 : w70.cell? ⟨gb438, 1, none⟩ = some (.int .i64 a1_1) := (blk_cell BK438.out 1).trans rfl; have hcz73_2 : w70.cell? ⟨gb438, 2, none⟩ = some (.slice A1_2 l1_2.length c1_2) := (blk_cell BK438.out 2).trans rfl; have hcz73_3 : w70.cell? ⟨gb438, 3, none⟩ = some (.int .i64 a1_3) := (blk_cell BK438.out 3).trans rfl; have hcz73_4 : w70.cell? ⟨gb438, 4, none⟩ = some (.int .i64 a1_4) := (blk_cell BK438.out 4).trans rfl; have hcz73_5 : w70.cell? ⟨gb438, 5, none⟩ = some (.slice A1_5 l1_5.length c1_5) := (blk_cell BK438.out 5).trans rfl; have hcz73_6 : w70.cell? ⟨gb438, 6, none⟩ = some (.slice A1_6 l1_6.length c1_6) := (blk_cell BK438.out 6).trans rfl; have hcz73_7 : w70.cell? ⟨gb438, 7, none⟩ = some (.slice A1_7 l1_7.length c1_7) := (blk_cell BK438.out 7).trans rfl; have hfz73_0 := blk_frozen BK438.out 0; have hfz73_1 := blk_frozen BK438.out 1; have hfz73_2 := blk_frozen BK438.out 2; have hfz73_3 := blk_frozen BK438.out 3; have hfz73_4 := blk_frozen BK438.out 4; have hfz73_5 := blk_frozen BK438.out 5; have hfz73_6 := blk_frozen BK438.out 6; have hfz73_7 := blk_frozen BK438.out 7))
      go_ret
      exact ⟨by first | rfl | (simp [errW_none, errW_some] <;> rfl) | (simp [*, errW_none, errW_some] <;> rfl), by repeat (first | (with_reducible first | exact HB.out | apply below_alloc | apply pw_below_drewN | apply below_drew1 | refine below_set ?_ GE437.out | refine below_set ?_ GE438.out) | exact HB.out)⟩
  · rw [if_neg c3] at H
    have c3b0 : (a0_0 == a1_0) = false := beq_eq_false_iff_ne.mpr c3
    have c3b1 : (a0_0 != a1_0) = true := bne_iff_ne.mpr c3
    obtain rfl := Option.some.inj H
    simp only [Option.some.injEq, Prod.mk.injEq] at H
    obtain ⟨rfl⟩ := H
    go_enter Try.func49, Try.ntmps49
    go_wp2_with (first | ((with_reducible refine gate_dst (N := 2) rfl ?_); refine box_event ?hg (N := 2) ?hd (cs := #[.int .i64 a0_0, .int .i64 a0_1, .slice A0_2 l0_2.length c0_2, .int .i64 a0_3, .int .i64 a0_4, .slice A0_5 l0_5.length c0_5, .slice A0_6 l0_6.length c0_6, .slice A0_7 l0_7.length c0_7]) (t := 46) ?hr ?_; (case hd => rfl); (case hg => rfl); (case hr => first | (go_simp; done) | (go_simp; rfl)); intro gb437 hg w74 hbox hb; have n0_ := Aside0.mk (below_step (by repeat (first | (with_reducible first | exact HB.out | apply below_alloc | apply pw_below_drewN | apply below_drew1) | exact HB.out)) hb); have n1_ := Aside0.mk (hbox); have n2_ := Aside0.mk ((by rw [hg]; exact (below_size (by repeat (first | (with_reducible first | exact HB.out | apply below_alloc | apply pw_below_drewN | apply below_drew1) | exact HB.out))) : w.heap.size ≤ gb437)); have n3_ := Aside0.mk ((by rw [hg]; exact (below_size (by repeat (first | (with_reducible first | exact HB.out | apply below_alloc | apply pw_below_drewN | apply below_drew1) | exact HB.out))) : w.heap.size ≤ gb437)); clear HB; have HB := n0_; have BK437 := n1_; have GW437 := n2_; have GE437 := n3_; clear n0_ n1_ n2_ n3_; clear hb hbox hg) | ((with_reducible refine gate_dst (N := 3) rfl ?_); refine box_event ?hg (N := 3) ?hd (cs := #[.int .i64 a1_0, .int .i64 a1_1, .slice A1_2 l1_2.length c1_2, .int .i64 a1_3, .int .i64 a1_4, .slice A1_5 l1_5.length c1_5, .slice A1_6 l1_6.length c1_6, .slice A1_7 l1_7.length c1_7]) (t := 46) ?hr ?_; (case hd => rfl); (case hg => rfl); (case hr => first | (go_simp; done) | (go_simp; rfl)); intro gb438 hg w75 hbox hb; have n0_ := Aside0.mk (blk_below (g := gb437) (o := .cells #[.int .i64 a0_0, .int .i64 a0_1, .slice A0_2 l0_2.length c0_2, .int .i64 a0_3, .int .i64 a0_4, .slice A0_5 l0_5.length c0_5, .slice A0_6 l0_6.length c0_6, .slice A0_7 l0_7.length c0_7] 46 (0, 0)) (by (with_reducible repeat (first | refine blk_drewN ?_ _ | refine blk_drew ?_ | refine blk_alloc ?_ _)); exact BK437.out) hb); have n1_ := Aside0.mk (below_step (by repeat (first | (with_reducible first | exact HB.out | apply below_alloc | apply pw_below_drewN | apply below_drew1 | refine below_set ?_ GE437.out) | exact HB.out)) hb); have n2_ := Aside0.mk (hbox); have n3_ := Aside0.mk ((by rw [hg]; exact (below_size (by repeat (first | (with_reducible first | exact HB.out | apply below_alloc | apply pw_below_drewN | apply below_drew1 | refine below_set ?_ GE437.out) | exact HB.out))) : w.heap.size ≤ gb438)); have n4_ := Aside0.mk ((by rw [hg]; exact (below_size (by repeat (first | (with_reducible first | exact HB.out | apply below_alloc | apply pw_below_drewN | apply below_drew1 | refine below_set ?_ GE437.out) | exact HB.out))) : w.heap.size ≤ gb438)); have n5_ := Aside0.mk ((by rw [hg]; exact Nat.ne_of_lt (blk_lt (g := gb437) (o := .cells #[.int .i64 a0_0, .int .i64 a0_1, .slice A0_2 l0_2.length c0_2, .int .i64 a0_3, .int .i64 a0_4, .slice A0_5 l0_5.length c0_5, .slice A0_6 l0_6.length c0_6, .slice A0_7 l0_7.length c0_7] 46 (0, 0)) (by (with_reducible repeat (first | refine blk_drewN ?_ _ | refine blk_drew ?_ | refine blk_alloc ?_ _)); exact BK437.out)) : gb437 ≠ gb438)); have n6_ := Aside0.mk ((by rw [hg]; exact Nat.ne_of_gt (blk_lt (g := gb437) (o := .cells #[.int .i64 a0_0, .int .i64 a0_1, .slice A0_2 l0_2.length c0_2, .int .i64 a0_3, .int .i64 a0_4, .slice A0_5 l0_5.length c0_5, .slice A0_6 l0_6.length c0_6, .slice A0_7 l0_7.length c0_7] 46 (0, 0)) (by (with_reducible repeat (first | refine blk_drewN ?_ _ | refine blk_drew ?_ | refine blk_alloc ?_ _)); exact BK437.out)) : gb438 ≠ gb437)); clear BK437; clear HB; have BK437 := n0_; have HB := n1_; have BK438 := n2_; have GW438 := n3_; have GE438 := n4_; have NB437_438 := n5_; have NB438_437 := n6_; clear n0_ n1_ n2_ n3_ n4_ n5_ n6_; clear hb hbox hg; have hnb76 := NB437_438.out; have hnc76 := NB438_437.out; have hcz77_0 : w75.cell? ⟨gb437, 0, none⟩ = some (.int .i64 a0_0) := (blk_cell BK437.out 0).trans rfl; have hcz77_1 : w75.cell? ⟨gb437, 1, none⟩ = some (.int .i64 a0_1) := (blk_cell BK437.out 1).trans rfl; have hcz77_2 : w75.cell? ⟨gb437, 2, none⟩ = some (.slice A0_2 l0_2.length c0_2) := (blk_cell BK437.out 2).trans rfl; have hcz77_3 : w75.cell? ⟨gb437, 3, none⟩ = some (.int .i64 a0_3) := (blk_cell BK437.out 3).trans rfl; have hcz77_4 : w75.cell? ⟨gb437, 4, none⟩ = some (.int .i64 a0_4) := (blk_cell BK437.out 4).trans rfl; have hcz77_5 : w75.cell? ⟨gb437, 5, none⟩ = some (.slice A0_5 l0_5.length c0_5) := (blk_cell BK437.out 5).trans rfl; have hcz77_6 : w75.cell? ⟨gb437, 6, none⟩ = some (.slice A0_6 l0_6.length c0_6) := (blk_cell BK437.out 6).trans rfl; have hcz77_7 : w75.cell? ⟨gb437, 7, none⟩ = some (.slice A0_7 l0_7.length c0_7) := (blk_cell BK437.out 7).trans rfl; have hfz77_0 := blk_frozen BK437.out 0; have hfz77_1 := blk_frozen BK437.out 1; have hfz77_2 := blk_frozen BK437.out 2; have hfz77_3 := blk_frozen BK437.out 3; have hfz77_4 := blk_frozen BK437.out 4; have hfz77_5 := blk_frozen BK437.out 5; have hfz77_6 := blk_frozen BK437.out 6; have hfz77_7 := blk_frozen BK437.out 7; have hcz78_0 : w75.cell? ⟨gb438, 0, none⟩ = some (.int .i64 a1_0) := (blk_cell BK438.out 0).trans rfl; have hcz78_1 : w75.cell? ⟨gb438, 1, none⟩ = some (.int .i64 a1_1) := (blk_cell BK438.out 1).trans rfl; have hcz78_2 : w75.cell? ⟨gb438, 2, none⟩ = some (.slice A1_2 l1_2.length c1_2) := (blk_cell BK438.out 2).trans rfl; have hcz78_3 : w75.cell? ⟨gb438, 3, none⟩ = some (.int .i64 a1_3) := (blk_cell BK438.out 3).trans rfl; have hcz78_4 : w75.cell? ⟨gb438, 4, none⟩ = some (.int .i64 a1_4) := (blk_cell BK438.out 4).trans rfl; have hcz78_5 : w75.cell? ⟨gb438, 5, none⟩ = some (.slice A1_5 l1_5.length c1_5) := (blk_cell BK438.out 5).trans rfl; have hcz78_6 : w75.cell? ⟨gb438, 6, none⟩ = some (.slice A1_6 l1_6.length c1_6) := (blk_cell BK438.out 6).trans rfl; have hcz78_7 : w75.cell? ⟨gb438, 7, none⟩ = some (.slice A1_7 l1_7.length c1_7) := (blk_cell BK438.out 7).trans rfl; have hfz78_0 := blk_frozen BK438.out 0; have hfz78_1 := blk_frozen BK438.out 1; have hfz78_2 := blk_frozen BK438.out 2; have hfz78_3 := blk_frozen BK438.out 3; have hfz78_4 := blk_frozen BK438.out 4; have hfz78_5 := blk_frozen BK438.out 5; have hfz78_6 := blk_frozen BK438.out 6; have hfz78_7 := blk_frozen BK438.out 7))
    go_ret
    exact ⟨by first | rfl | (simp [errW_none, errW_some] <;> rfl) | (simp [*, errW_none, errW_some] <;> rfl), by repeat (first | (with_reducible first | exact HB.out | apply below_alloc | apply pw_below_drewN | apply below_drew1 | refine below_set ?_ GE437.out | refine below_set ?_ GE438.out) | exact HB.out)⟩
end Go.Proofs.Ytedodaifpekahaa.P

end
section

namespace Go.Proofs.Ytedodaifpekahaa.P
open Go.RowKit Go.Proofs.YtedodaifpekahaaW.PrintWords Go.Proofs.YtedodaifpekahaaW.PrintLast Go.Proofs.YtedodaifpekahaaW.PrintMore
attribute [local go_sem] max2_int min2_int max_two min_two max_three min_three max_four min_four
set_option linter.unusedVariables false
set_option linter.unusedSimpArgs false
def laws_eqMethodS.T6 : Bool × List (List Nat × List Nat) := (true, [([], []), ([], []), ([0, 1], [0, 1]), ([2], [2]), ([], []), ([], []), ([4, 5], [4, 5]), ([6], [6]), ([3, 7], [3, 7]), ([8], [8])])
def laws_eqMethodS.B6 : List Nat := [0, 0, 3, 7, 0, 0, 48, 112, 255, 511]
theorem laws_eqMethodS.tab6 : rtab .any (opsOf Try.f27 6) = laws_eqMethodS.T6 := by kernel_rfl
theorem laws_eqMethodS.bits6 : waitsOk laws_eqMethodS.T6.2 laws_eqMethodS.B6 = true := by kernel_rfl
set_option maxHeartbeats 8000000 in
set_option maxRecDepth 100000 in
theorem laws_eqMethodS.calls (k : Nat) (A0 : Option Addr) (c0 : Nat) (l0 : List (S46)) (A1 : Option Addr) (c1 : Nat) (l1 : List (S46)) (r : Bool) (w : World) (hr0 : Kd.C k46 w A0 l0.length l0) (hc0 : l0.length ≤ c0) (hr1 : Kd.C k46 w A1 l1.length l1) (hc1 : l1.length ≤ c1) (h : laws_eqMethodS.f k l0 l1 = some r) :
    Calls Try.prog 27 #[.slice A0 l0.length c0, .slice A1 l1.length c1] w fun e w' => e = .returned (.bool r) ∧ Below w.heap.size w w' := by
  have hu46 := Try.underlying46
  have HR0 := Aside0.mk hr0
  have HC0 := Aside0.mk hc0
  clear hr0 hc0
  have HR1 := Aside0.mk hr1
  have HC1 := Aside0.mk hc1
  clear hr1 hc1
  have HB := Aside0.mk (Below.refl w.heap.size w)
  have H : (if (l0.length : Int) = (l1.length : Int) then (laws_eqMethodS.l0 k l0 l1 0) else (some false)) = some r := h
  clear h
  by_cases c3 : (l0.length : Int) = (l1.length : Int)
  · rw [if_pos c3] at H
    have c3b0 : ((l0.length : Int) == (l1.length : Int)) = true := beq_iff_eq.mpr c3
    have c3b1 : ((l0.length : Int) != (l1.length : Int)) = false := bne_eq_false_iff_eq.mpr c3
    have c3b2 : (l0.length == l1.length) = true := by first | simpa using c3 | (simp at c3 ⊢; omega)
    clear c3
    have H' := Aside0.mk H
    clear H
    go_enter Try.func27, Try.ntmps27
    go_wp2
    go_loopg [5] k (fun kq v5 w' => ∃ (x5_1 : Int), v5 = .int .i64 x5_1 ∧ Aside0 (laws_eqMethodS.l0 kq l0 l1 x5_1 = some r) ∧ Aside0 (kq ≤ k) ∧ Aside0 (Below w.heap.size w w'))
    case atStart => exact ⟨(0), (by first | rfl | (simp; done) | (simp [*]; done)), H', ⟨Nat.le_refl _⟩, ⟨by repeat (first | (with_reducible first | exact HB.out | apply below_alloc | apply pw_below_drewN | apply below_drew1) | exact HB.out)⟩⟩
    case round =>
      clear H'
      try clear c1
      try clear c2
      try clear p2
      try clear c3
      try clear c3b0
      try clear c3b1
      try clear c3b2
      obtain ⟨x5_1, rfl, HA, HK1, HB⟩ := hrel
      cases gk with
      | zero => exact absurd HA.out (by simp [laws_eqMethodS.l0])
      | succ k1 =>
        have H := HA.out
        clear HA
        simp only [laws_eqMethodS.l0] at H
        by_cases c4 : x5_1 < (l0.length : Int)
        · rw [if_pos c4] at H
          have c4b0 : decide (x5_1 < (l0.length : Int)) = true := decide_eq_true c4
          clear c4
          by_cases c5 : 0 ≤ x5_1
          · rw [if_pos c5] at H
            have c5b0 : decide (0 ≤ x5_1) = true := decide_eq_true c5
            clear c5
            by_cases c6 : x5_1 < (l1.length : Int)
            · rw [if_pos c6] at H
              have c6b0 : decide (x5_1 < (l1.length : Int)) = true := decide_eq_true c6
              clear c6
              replace H := Option.bind_eq_some_iff.mp H
              obtain ⟨t445, A70, H⟩ := H
              replace H : (if t445 = true then (laws_eqMethodS.l0 k1 l0 l1 (wrap64 (x5_1 + 1))) else (some false)) = some r := H
              have A7 := Aside0.mk A70
              clear A70
              by_cases c8 : t445 = true
              · subst c8
                have H1 : (laws_eqMethodS.l0 k1 l0 l1 (wrap64 (x5_1 + 1))) = some r := by rw [if_pos rfl] at H; exact H
                clear H
                have H := H1
                clear H1
                have H' := Aside0.mk H
                clear H
                try go_wp2
                have n0_ := Aside0.mk (below_drew1 HB.out)
                clear HB
                have HB := n0_
                clear n0_
                have p443 : 0 ≤ (x5_1 : Int) := of_decide_eq_true (by first | (with_reducible assumption) | assumption)
                have q443 : x5_1 < (l0.length : Int) := of_decide_eq_true (by first | (with_reducible assumption) | assumption)
                obtain ⟨ad443, A443_2, c443_2, A443_5, c443_5, A443_6, c443_6, A443_7, c443_7, e443, hx443_0, hx443_1, hx443_2, hx443_3, hx443_4, hx443_5, hx443_6, hx443_7, hl443_2, hi443_2, hl443_5, hi443_5, hl443_6, hi443_6, hl443_7, hi443_7⟩ := at_T46 HR0.out x5_1 p443 q443
                have hw443_7 := hx443_7
                have hw443_6 := hx443_6
                have hw443_5 := hx443_5
                have hw443_4 := hx443_4
                have hw443_3 := hx443_3
                have hw443_2 := hx443_2
                have hw443_1 := hx443_1
                have hw443_0 := hx443_0
                cases e443
                replace hx443_0 := (HB.out.cell (World.block_lt_of_cell? w _ hx443_0)).trans hx443_0
                replace hx443_1 := (HB.out.cell (World.block_lt_of_cell? w _ hx443_1)).trans hx443_1
                replace hx443_2 := (HB.out.cell (World.block_lt_of_cell? w _ hx443_2)).trans hx443_2
                replace hx443_3 := (HB.out.cell (World.block_lt_of_cell? w _ hx443_3)).trans hx443_3
                replace hx443_4 := (HB.out.cell (World.block_lt_of_cell? w _ hx443_4)).trans hx443_4
                replace hx443_5 := (HB.out.cell (World.block_lt_of_cell? w _ hx443_5)).trans hx443_5
                replace hx443_6 := (HB.out.cell (World.block_lt_of_cell? w _ hx443_6)).trans hx443_6
                replace hx443_7 := (HB.out.cell (World.block_lt_of_cell? w _ hx443_7)).trans hx443_7
                have HR443_2 := Aside0.mk hi443_2
                have HC443_2 := Aside0.mk hl443_2
                clear hi443_2 hl443_2
                have HR443_5 := Aside0.mk hi443_5
                have HC443_5 := Aside0.mk hl443_5
                clear hi443_5 hl443_5
                have HR443_6 := Aside0.mk hi443_6
                have HC443_6 := Aside0.mk hl443_6
                clear hi443_6 hl443_6
                have HR443_7 := Aside0.mk hi443_7
                have HC443_7 := Aside0.mk hl443_7
                clear hi443_7 hl443_7
                replace p443 := eq_true p443
                replace q443 := eq_true q443
                have p444 : 0 ≤ (x5_1 : Int) := of_decide_eq_true (by first | (with_reducible assumption) | assumption)
                have q444 : x5_1 < (l1.length : Int) := of_decide_eq_true (by first | (with_reducible assumption) | assumption)
                obtain ⟨ad444, A444_2, c444_2, A444_5, c444_5, A444_6, c444_6, A444_7, c444_7, e444, hx444_0, hx444_1, hx444_2, hx444_3, hx444_4, hx444_5, hx444_6, hx444_7, hl444_2, hi444_2, hl444_5, hi444_5, hl444_6, hi444_6, hl444_7, hi444_7⟩ := at_T46 HR1.out x5_1 p444 q444
                have hw444_7 := hx444_7
                have hw444_6 := hx444_6
                have hw444_5 := hx444_5
                have hw444_4 := hx444_4
                have hw444_3 := hx444_3
                have hw444_2 := hx444_2
                have hw444_1 := hx444_1
                have hw444_0 := hx444_0
                cases e444
                replace hx444_0 := (HB.out.cell (World.block_lt_of_cell? w _ hx444_0)).trans hx444_0
                replace hx444_1 := (HB.out.cell (World.block_lt_of_cell? w _ hx444_1)).trans hx444_1
                replace hx444_2 := (HB.out.cell (World.block_lt_of_cell? w _ hx444_2)).trans hx444_2
                replace hx444_3 := (HB.out.cell (World.block_lt_of_cell? w _ hx444_3)).trans hx444_3
                replace hx444_4 := (HB.out.cell (World.block_lt_of_cell? w _ hx444_4)).trans hx444_4
                replace hx444_5 := (HB.out.cell (World.block_lt_of_cell? w _ hx444_5)).trans hx444_5
                replace hx444_6 := (HB.out.cell (World.block_lt_of_cell? w _ hx444_6)).trans hx444_6
                replace hx444_7 := (HB.out.cell (World.block_lt_of_cell? w _ hx444_7)).trans hx444_7
                have HR444_2 := Aside0.mk hi444_2
                have HC444_2 := Aside0.mk hl444_2
                clear hi444_2 hl444_2
                have HR444_5 := Aside0.mk hi444_5
                have HC444_5 := Aside0.mk hl444_5
                clear hi444_5 hl444_5
                have HR444_6 := Aside0.mk hi444_6
                have HC444_6 := Aside0.mk hl444_6
                clear hi444_6 hl444_6
                have HR444_7 := Aside0.mk hi444_7
                have HC444_7 := Aside0.mk hl444_7
                clear hi444_7 hl444_7
                replace p444 := eq_true p444
                replace q444 := eq_true q444
                refine start_ (n := 10) (S := fun w' => w'.cell? (ad443.add ((x5_1).toNat * 8)) = some (.int .i64 ((rd_T46 l0 x5_1).f0)) ∧ w'.cell? ⟨(ad443.add ((x5_1).toNat * 8)).block, (ad443.add ((x5_1).toNat * 8)).off + 1, none⟩ = some (.int .i64 ((rd_T46 l0 x5_1).f1)) ∧ w'.cell? ⟨(ad443.add ((x5_1).toNat * 8)).block, (ad443.add ((x5_1).toNat * 8)).off + 2, none⟩ = some (.slice A443_2 ((rd_T46 l0 x5_1).f2).length c443_2) ∧ w'.cell? ⟨(ad443.add ((x5_1).toNat * 8)).block, (ad443.add ((x5_1).toNat * 8)).off + 3, none⟩ = some (.int .i64 ((rd_T46 l0 x5_1).f3)) ∧ w'.cell? ⟨(ad443.add ((x5_1).toNat * 8)).block, (ad443.add ((x5_1).toNat * 8)).off + 4, none⟩ = some (.int .i64 ((rd_T46 l0 x5_1).f4)) ∧ w'.cell? ⟨(ad443.add ((x5_1).toNat * 8)).block, (ad443.add ((x5_1).toNat * 8)).off + 5, none⟩ = some (.slice A443_5 ((rd_T46 l0 x5_1).f5).length c443_5) ∧ w'.cell? ⟨(ad443.add ((x5_1).toNat * 8)).block, (ad443.add ((x5_1).toNat * 8)).off + 6, none⟩ = some (.slice A443_6 ((rd_T46 l0 x5_1).f6).length c443_6) ∧ w'.cell? ⟨(ad443.add ((x5_1).toNat * 8)).block, (ad443.add ((x5_1).toNat * 8)).off + 7, none⟩ = some (.slice A443_7 ((rd_T46 l0 x5_1).f7).length c443_7) ∧ w'.cell? (ad444.add ((x5_1).toNat * 8)) = some (.int .i64 ((rd_T46 l1 x5_1).f0)) ∧ w'.cell? ⟨(ad444.add ((x5_1).toNat * 8)).block, (ad444.add ((x5_1).toNat * 8)).off + 1, none⟩ = some (.int .i64 ((rd_T46 l1 x5_1).f1)) ∧ w'.cell? ⟨(ad444.add ((x5_1).toNat * 8)).block, (ad444.add ((x5_1).toNat * 8)).off + 2, none⟩ = some (.slice A444_2 ((rd_T46 l1 x5_1).f2).length c444_2) ∧ w'.cell? ⟨(ad444.add ((x5_1).toNat * 8)).block, (ad444.add ((x5_1).toNat * 8)).off + 3, none⟩ = some (.int .i64 ((rd_T46 l1 x5_1).f3)) ∧ w'.cell? ⟨(ad444.add ((x5_1).toNat * 8)).block, (ad444.add ((x5_1).toNat * 8)).off + 4, none⟩ = some (.int .i64 ((rd_T46 l1 x5_1).f4)) ∧ w'.cell? ⟨(ad444.add ((x5_1).toNat * 8)).block, (ad444.add ((x5_1).toNat * 8)).off + 5, none⟩ = some (.slice A444_5 ((rd_T46 l1 x5_1).f5).length c444_5) ∧ w'.cell? ⟨(ad444.add ((x5_1).toNat * 8)).block, (ad444.add ((x5_1).toNat * 8)).off + 6, none⟩ = some (.slice A444_6 ((rd_T46 l1 x5_1).f6).length c444_6) ∧ w'.cell? ⟨(ad444.add ((x5_1).toNat * 8)).block, (ad444.add ((x5_1).toNat * 8)).off + 7, none⟩ = some (.slice A444_7 ((rd_T46 l1 x5_1).f7).length c444_7)) (ds := []) #[false, false, false, false, false, false, false, false, false, false] (by kernel_rfl) rfl rfl ⟨((HB.out.cell (World.block_lt_of_cell? w _ hw443_0)).trans hw443_0), ((HB.out.cell (World.block_lt_of_cell? w _ hw443_1)).trans hw443_1), ((HB.out.cell (World.block_lt_of_cell? w _ hw443_2)).trans hw443_2), ((HB.out.cell (World.block_lt_of_cell? w _ hw443_3)).trans hw443_3), ((HB.out.cell (World.block_lt_of_cell? w _ hw443_4)).trans hw443_4), ((HB.out.cell (World.block_lt_of_cell? w _ hw443_5)).trans hw443_5), ((HB.out.cell (World.block_lt_of_cell? w _ hw443_6)).trans hw443_6), ((HB.out.cell (World.block_lt_of_cell? w _ hw443_7)).trans hw443_7), ((HB.out.cell (World.block_lt_of_cell? w _ hw444_0)).trans hw444_0), ((HB.out.cell (World.block_lt_of_cell? w _ hw444_1)).trans hw444_1), ((HB.out.cell (World.block_lt_of_cell? w _ hw444_2)).trans hw444_2), ((HB.out.cell (World.block_lt_of_cell? w _ hw444_3)).trans hw444_3), ((HB.out.cell (World.block_lt_of_cell? w _ hw444_4)).trans hw444_4), ((HB.out.cell (World.block_lt_of_cell? w _ hw444_5)).trans hw444_5), ((HB.out.cell (World.block_lt_of_cell? w _ hw444_6)).trans hw444_6), ((HB.out.cell (World.block_lt_of_cell? w _ hw444_7)).trans hw444_7)⟩ (fun hHeld => ?_); refine with_tabW laws_eqMethodS.tab6 laws_eqMethodS.bits6 (fun HT_ HW_ => ?_)
                generalize wr.drew = w9 at HB HR443_2 HR443_5 HR443_6 HR443_7 HR444_2 HR444_5 HR444_6 HR444_7 hx443_0 hx443_1 hx443_2 hx443_3 hx443_4 hx443_5 hx443_6 hx443_7 hx444_0 hx444_1 hx444_2 hx444_3 hx444_4 hx444_5 hx444_6 hx444_7 hHeld ⊢
                refine pure_ (i := 0) (N := some 17) (v := ?_) (a' := ?_) #[true, false, false, false, false, false, false, false, false, false] rfl rfl (any_of HT_.out (by kernel_rfl)) (fun _ _ _ h => h) (Or.inl ⟨by rfl, ?_⟩) ?_ ?_
                rotate_left
                · intro w'
                  go_simp
                  with_reducible rfl
                rotate_left
                · simp only [Act.put, List.setIfInBounds_toArray, List.set_cons_zero, List.set_cons_succ, i64_w, i32_w]
                  rfl
                refine pure_ (i := 1) (N := some 18) (v := ?_) (a' := ?_) #[true, true, false, false, false, false, false, false, false, false] rfl rfl (any_of HT_.out (by kernel_rfl)) (fun _ _ _ h => h) (Or.inl ⟨by rfl, ?_⟩) ?_ ?_
                rotate_left
                · intro w'
                  go_simp
                  with_reducible rfl
                rotate_left
                · simp only [Act.put, List.setIfInBounds_toArray, List.set_cons_zero, List.set_cons_succ, i64_w, i32_w]
                  rfl
                refine pure_ (i := 2) (N := some 19) (v := ?_) (a' := ?_) #[true, true, true, false, false, false, false, false, false, false] rfl rfl (any_of HT_.out (by kernel_rfl)) (fun _ _ _ h => h) (Or.inl ⟨by rfl, ?_⟩) ?_ ?_
                rotate_left
                · intro w'
                  go_simp
                  with_reducible rfl
                rotate_left
                · simp only [Act.put, List.setIfInBounds_toArray, List.set_cons_zero, List.set_cons_succ, i64_w, i32_w]
                  rfl
                refine pure_ (i := 4) (N := some 21) (v := ?_) (a' := ?_) #[true, true, true, false, true, false, false, false, false, false] rfl rfl (any_of HT_.out (by kernel_rfl)) (fun _ _ _ h => h) (Or.inl ⟨by rfl, ?_⟩) ?_ ?_
                rotate_left
                · intro w'
                  go_simp
                  with_reducible rfl
                rotate_left
                · simp only [Act.put, List.setIfInBounds_toArray, List.set_cons_zero, List.set_cons_succ, i64_w, i32_w]
                  rfl
                refine pure_ (i := 5) (N := some 22) (v := ?_) (a' := ?_) #[true, true, true, false, true, true, false, false, false, false] rfl rfl (any_of HT_.out (by kernel_rfl)) (fun _ _ _ h => h) (Or.inl ⟨by rfl, ?_⟩) ?_ ?_
                rotate_left
                · intro w'
                  go_simp
                  with_reducible rfl
                rotate_left
                · simp only [Act.put, List.setIfInBounds_toArray, List.set_cons_zero, List.set_cons_succ, i64_w, i32_w]
                  rfl
                refine pure_ (i := 6) (N := some 23) (v := ?_) (a' := ?_) #[true, true, true, false, true, true, true, false, false, false] rfl rfl (any_of HT_.out (by kernel_rfl)) (fun _ _ _ h => h) (Or.inl ⟨by rfl, ?_⟩) ?_ ?_
                rotate_left
                · intro w'
                  go_simp
                  with_reducible rfl
                rotate_left
                · simp only [Act.put, List.setIfInBounds_toArray, List.set_cons_zero, List.set_cons_succ, i64_w, i32_w]
                  rfl
                refine take_ (i := 3) (N := some 20) (v := ?_) (a' := ?_) #[true, true, true, true, true, true, true, false, false, false] rfl rfl (take_ofW HT_.out HW_.out (by kernel_rfl)) (fun _ _ _ h => h) (Or.inl ⟨by rfl, ?_⟩) hHeld ?_ ?_
                rotate_left
                · rintro w' ⟨s0, s1, s2, s3, s4, s5, s6, s7, s8, s9, s10, s11, s12, s13, s14, s15⟩
                  go_simp
                  with_reducible rfl
                rotate_left
                · simp only [Act.put, List.setIfInBounds_toArray, List.set_cons_zero, List.set_cons_succ, i64_w, i32_w]
                  rfl
                refine take_ (i := 7) (N := some 24) (v := ?_) (a' := ?_) #[true, true, true, true, true, true, true, true, false, false] rfl rfl (take_ofW HT_.out HW_.out (by kernel_rfl)) (fun _ _ _ h => h) (Or.inl ⟨by rfl, ?_⟩) hHeld ?_ ?_
                rotate_left
                · rintro w' ⟨s0, s1, s2, s3, s4, s5, s6, s7, s8, s9, s10, s11, s12, s13, s14, s15⟩
                  go_simp
                  with_reducible rfl
                rotate_left
                · simp only [Act.put, List.setIfInBounds_toArray, List.set_cons_zero, List.set_cons_succ, i64_w, i32_w]
                  rfl
                refine one_ (i := 8) (N := some 25) #[true, true, true, true, true, true, true, true, true, false] rfl rfl (one_of HT_.out (by kernel_rfl)) (by decide) (fun K hK => ?_)
                refine goes_ Try.func49 (by kernel_rfl) rfl #[.agg #[.int .i64 ((rd_T46 l0 x5_1).f0), .int .i64 ((rd_T46 l0 x5_1).f1), .slice A443_2 ((rd_T46 l0 x5_1).f2).length c443_2, .int .i64 ((rd_T46 l0 x5_1).f3), .int .i64 ((rd_T46 l0 x5_1).f4), .slice A443_5 ((rd_T46 l0 x5_1).f5).length c443_5, .slice A443_6 ((rd_T46 l0 x5_1).f6).length c443_6, .slice A443_7 ((rd_T46 l0 x5_1).f7).length c443_7], .agg #[.int .i64 ((rd_T46 l1 x5_1).f0), .int .i64 ((rd_T46 l1 x5_1).f1), .slice A444_2 ((rd_T46 l1 x5_1).f2).length c444_2, .int .i64 ((rd_T46 l1 x5_1).f3), .int .i64 ((rd_T46 l1 x5_1).f4), .slice A444_5 ((rd_T46 l1 x5_1).f5).length c444_5, .slice A444_6 ((rd_T46 l1 x5_1).f6).length c444_6, .slice A444_7 ((rd_T46 l1 x5_1).f7).length c444_7]] (by rfl) rfl rfl (by (try simp only [List.map_toArray, List.map_cons, List.map_nil]); first | done | rfl | (simp only [List.length_drop, List.length_take]; rfl)) ?_
                with_reducible refine (laws_eqMethod.calls k1 ((rd_T46 l0 x5_1).f0) ((rd_T46 l0 x5_1).f1) _ _ ((rd_T46 l0 x5_1).f2) ((rd_T46 l0 x5_1).f3) ((rd_T46 l0 x5_1).f4) _ _ ((rd_T46 l0 x5_1).f5) _ _ ((rd_T46 l0 x5_1).f6) _ _ ((rd_T46 l0 x5_1).f7) ((rd_T46 l1 x5_1).f0) ((rd_T46 l1 x5_1).f1) _ _ ((rd_T46 l1 x5_1).f2) ((rd_T46 l1 x5_1).f3) ((rd_T46 l1 x5_1).f4) _ _ ((rd_T46 l1 x5_1).f5) _ _ ((rd_T46 l1 x5_1).f6) _ _ ((rd_T46 l1 x5_1).f7) true _ ?side1 ?side2 ?side3 ?side4 ?side5 ?side6 ?side7 ?side8 ?side9 ?side10 ?side11 ?side12 ?side13 ?side14 ?side15 ?side16 A7.out).mono ?_
                (case side1 => repeat (first | exact (Kd.C_below HR443_2.out HB.out) | (with_reducible refine Kd.C_alloc ?_ _) | (with_reducible refine Kd.C_drewN ?_ _) | (with_reducible refine Kd.C_drew ?_)))
                (case side2 => exact HC443_2.out)
                (case side3 => repeat (first | exact (Kd.C_below HR443_5.out HB.out) | (with_reducible refine Kd.C_alloc ?_ _) | (with_reducible refine Kd.C_drewN ?_ _) | (with_reducible refine Kd.C_drew ?_)))
                (case side4 => exact HC443_5.out)
                (case side5 => repeat (first | exact (Kd.C_below HR443_6.out HB.out) | (with_reducible refine Kd.C_alloc ?_ _) | (with_reducible refine Kd.C_drewN ?_ _) | (with_reducible refine Kd.C_drew ?_)))
                (case side6 => exact HC443_6.out)
                (case side7 => repeat (first | exact (Kd.C_below HR443_7.out HB.out) | (with_reducible refine Kd.C_alloc ?_ _) | (with_reducible refine Kd.C_drewN ?_ _) | (with_reducible refine Kd.C_drew ?_)))
                (case side8 => exact HC443_7.out)
                (case side9 => repeat (first | exact (Kd.C_below HR444_2.out HB.out) | (with_reducible refine Kd.C_alloc ?_ _) | (with_reducible refine Kd.C_drewN ?_ _) | (with_reducible refine Kd.C_drew ?_)))
                (case side10 => exact HC444_2.out)
                (case side11 => repeat (first | exact (Kd.C_below HR444_5.out HB.out) | (with_reducible refine Kd.C_alloc ?_ _) | (with_reducible refine Kd.C_drewN ?_ _) | (with_reducible refine Kd.C_drew ?_)))
                (case side12 => exact HC444_5.out)
                (case side13 => repeat (first | exact (Kd.C_below HR444_6.out HB.out) | (with_reducible refine Kd.C_alloc ?_ _) | (with_reducible refine Kd.C_drewN ?_ _) | (with_reducible refine Kd.C_drew ?_)))
                (case side14 => exact HC444_6.out)
                (case side15 => repeat (first | exact (Kd.C_below HR444_7.out HB.out) | (with_reducible refine Kd.C_alloc ?_ _) | (with_reducible refine Kd.C_drewN ?_ _) | (with_reducible refine Kd.C_drew ?_)))
                (case side16 => exact HC444_7.out)
                rintro e w10 ⟨rfl, hb⟩
                refine ⟨_, rfl, ?_⟩
                have n0_ := Aside0.mk (below_step (by repeat (first | (with_reducible first | exact HB.out | apply below_alloc | apply pw_below_drewN | apply below_drew1) | exact HB.out)) hb)
                clear HB
                have HB := n0_
                clear n0_
                (try clear hb)
                (try clear hb2)
                (try clear hk)
                (try clear hi)
                refine hK.out _ _ ⟨((HB.out.cell (World.block_lt_of_cell? w _ hw443_0)).trans hw443_0), ((HB.out.cell (World.block_lt_of_cell? w _ hw443_1)).trans hw443_1), ((HB.out.cell (World.block_lt_of_cell? w _ hw443_2)).trans hw443_2), ((HB.out.cell (World.block_lt_of_cell? w _ hw443_3)).trans hw443_3), ((HB.out.cell (World.block_lt_of_cell? w _ hw443_4)).trans hw443_4), ((HB.out.cell (World.block_lt_of_cell? w _ hw443_5)).trans hw443_5), ((HB.out.cell (World.block_lt_of_cell? w _ hw443_6)).trans hw443_6), ((HB.out.cell (World.block_lt_of_cell? w _ hw443_7)).trans hw443_7), ((HB.out.cell (World.block_lt_of_cell? w _ hw444_0)).trans hw444_0), ((HB.out.cell (World.block_lt_of_cell? w _ hw444_1)).trans hw444_1), ((HB.out.cell (World.block_lt_of_cell? w _ hw444_2)).trans hw444_2), ((HB.out.cell (World.block_lt_of_cell? w _ hw444_3)).trans hw444_3), ((HB.out.cell (World.block_lt_of_cell? w _ hw444_4)).trans hw444_4), ((HB.out.cell (World.block_lt_of_cell? w _ hw444_5)).trans hw444_5), ((HB.out.cell (World.block_lt_of_cell? w _ hw444_6)).trans hw444_6), ((HB.out.cell (World.block_lt_of_cell? w _ hw444_7)).trans hw444_7)⟩ (fun hHeld => ?_)
                clear hK K
                refine norm_ (a' := ?_) ?_ ?_
                rotate_left
                · show Act.put _ (some 25) _ = _
                  simp only [Act.put, List.setIfInBounds_toArray, List.set_cons_zero, List.set_cons_succ, i64_w, i32_w]
                  rfl
                refine pure_ (i := 9) (N := some 26) (v := ?_) (a' := ?_) #[true, true, true, true, true, true, true, true, true, true] rfl rfl (any_of HT_.out (by kernel_rfl)) (fun _ _ _ h => h) (Or.inl ⟨by rfl, ?_⟩) ?_ ?_
                rotate_left
                · intro w'
                  go_simp
                  with_reducible rfl
                rotate_left
                · simp only [Act.put, List.setIfInBounds_toArray, List.set_cons_zero, List.set_cons_succ, i64_w, i32_w]
                  rfl
                refine done_ (done_of HT_.out (by kernel_rfl)) ?_
                try go_wp2
                go_roundg k1
                case measure => have := HK1.out; omega
                case rel => exact ⟨(wrap64 (x5_1 + 1)), (by first | rfl | (simp; done) | (simp [*]; done)), H', ⟨by have := HK1.out; omega⟩, ⟨by repeat (first | (with_reducible first | exact HB.out | apply below_alloc | apply pw_below_drewN | apply below_drew1) | exact HB.out)⟩⟩
              · replace c8 := Bool.eq_false_iff.mpr c8
                subst c8
                have H1 : (some false) = some r := by rw [if_neg (show ¬ (false = true) by decide)] at H; exact H
                clear H
                have H := H1
                clear H1
                obtain rfl := Option.some.inj H
                simp only [Option.some.injEq, Prod.mk.injEq] at H
                obtain ⟨rfl⟩ := H
                try go_wp2
                have n0_ := Aside0.mk (below_drew1 HB.out)
                clear HB
                have HB := n0_
                clear n0_
                have p443 : 0 ≤ (x5_1 : Int) := of_decide_eq_true (by first | (with_reducible assumption) | assumption)
                have q443 : x5_1 < (l0.length : Int) := of_decide_eq_true (by first | (with_reducible assumption) | assumption)
                obtain ⟨ad443, A443_2, c443_2, A443_5, c443_5, A443_6, c443_6, A443_7, c443_7, e443, hx443_0, hx443_1, hx443_2, hx443_3, hx443_4, hx443_5, hx443_6, hx443_7, hl443_2, hi443_2, hl443_5, hi443_5, hl443_6, hi443_6, hl443_7, hi443_7⟩ := at_T46 HR0.out x5_1 p443 q443
                have hw443_7 := hx443_7
                have hw443_6 := hx443_6
                have hw443_5 := hx443_5
                have hw443_4 := hx443_4
                have hw443_3 := hx443_3
                have hw443_2 := hx443_2
                have hw443_1 := hx443_1
                have hw443_0 := hx443_0
                cases e443
                replace hx443_0 := (HB.out.cell (World.block_lt_of_cell? w _ hx443_0)).trans hx443_0
                replace hx443_1 := (HB.out.cell (World.block_lt_of_cell? w _ hx443_1)).trans hx443_1
                replace hx443_2 := (HB.out.cell (World.block_lt_of_cell? w _ hx443_2)).trans hx443_2
                replace hx443_3 := (HB.out.cell (World.block_lt_of_cell? w _ hx443_3)).trans hx443_3
                replace hx443_4 := (HB.out.cell (World.block_lt_of_cell? w _ hx443_4)).trans hx443_4
                replace hx443_5 := (HB.out.cell (World.block_lt_of_cell? w _ hx443_5)).trans hx443_5
                replace hx443_6 := (HB.out.cell (World.block_lt_of_cell? w _ hx443_6)).trans hx443_6
                replace hx443_7 := (HB.out.cell (World.block_lt_of_cell? w _ hx443_7)).trans hx443_7
                have HR443_2 := Aside0.mk hi443_2
                have HC443_2 := Aside0.mk hl443_2
                clear hi443_2 hl443_2
                have HR443_5 := Aside0.mk hi443_5
                have HC443_5 := Aside0.mk hl443_5
                clear hi443_5 hl443_5
                have HR443_6 := Aside0.mk hi443_6
                have HC443_6 := Aside0.mk hl443_6
                clear hi443_6 hl443_6
                have HR443_7 := Aside0.mk hi443_7
                have HC443_7 := Aside0.mk hl443_7
                clear hi443_7 hl443_7
                replace p443 := eq_true p443
                replace q443 := eq_true q443
                have p444 : 0 ≤ (x5_1 : Int) := of_decide_eq_true (by first | (with_reducible assumption) | assumption)
                have q444 : x5_1 < (l1.length : Int) := of_decide_eq_true (by first | (with_reducible assumption) | assumption)
                obtain ⟨ad444, A444_2, c444_2, A444_5, c444_5, A444_6, c444_6, A444_7, c444_7, e444, hx444_0, hx444_1, hx444_2, hx444_3, hx444_4, hx444_5, hx444_6, hx444_7, hl444_2, hi444_2, hl444_5, hi444_5, hl444_6, hi444_6, hl444_7, hi444_7⟩ := at_T46 HR1.out x5_1 p444 q444
                have hw444_7 := hx444_7
                have hw444_6 := hx444_6
                have hw444_5 := hx444_5
                have hw444_4 := hx444_4
                have hw444_3 := hx444_3
                have hw444_2 := hx444_2
                have hw444_1 := hx444_1
                have hw444_0 := hx444_0
                cases e444
                replace hx444_0 := (HB.out.cell (World.block_lt_of_cell? w _ hx444_0)).trans hx444_0
                replace hx444_1 := (HB.out.cell (World.block_lt_of_cell? w _ hx444_1)).trans hx444_1
                replace hx444_2 := (HB.out.cell (World.block_lt_of_cell? w _ hx444_2)).trans hx444_2
                replace hx444_3 := (HB.out.cell (World.block_lt_of_cell? w _ hx444_3)).trans hx444_3
                replace hx444_4 := (HB.out.cell (World.block_lt_of_cell? w _ hx444_4)).trans hx444_4
                replace hx444_5 := (HB.out.cell (World.block_lt_of_cell? w _ hx444_5)).trans hx444_5
                replace hx444_6 := (HB.out.cell (World.block_lt_of_cell? w _ hx444_6)).trans hx444_6
                replace hx444_7 := (HB.out.cell (World.block_lt_of_cell? w _ hx444_7)).trans hx444_7
                have HR444_2 := Aside0.mk hi444_2
                have HC444_2 := Aside0.mk hl444_2
                clear hi444_2 hl444_2
                have HR444_5 := Aside0.mk hi444_5
                have HC444_5 := Aside0.mk hl444_5
                clear hi444_5 hl444_5
                have HR444_6 := Aside0.mk hi444_6
                have HC444_6 := Aside0.mk hl444_6
                clear hi444_6 hl444_6
                have HR444_7 := Aside0.mk hi444_7
                have HC444_7 := Aside0.mk hl444_7
                clear hi444_7 hl444_7
                replace p444 := eq_true p444
                replace q444 := eq_true q444
                refine start_ (n := 10) (S := fun w' => w'.cell? (ad443.add ((x5_1).toNat * 8)) = some (.int .i64 ((rd_T46 l0 x5_1).f0)) ∧ w'.cell? ⟨(ad443.add ((x5_1).toNat * 8)).block, (ad443.add ((x5_1).toNat * 8)).off + 1, none⟩ = some (.int .i64 ((rd_T46 l0 x5_1).f1)) ∧ w'.cell? ⟨(ad443.add ((x5_1).toNat * 8)).block, (ad443.add ((x5_1).toNat * 8)).off + 2, none⟩ = some (.slice A443_2 ((rd_T46 l0 x5_1).f2).length c443_2) ∧ w'.cell? ⟨(ad443.add ((x5_1).toNat * 8)).block, (ad443.add ((x5_1).toNat * 8)).off + 3, none⟩ = some (.int .i64 ((rd_T46 l0 x5_1).f3)) ∧ w'.cell? ⟨(ad443.add ((x5_1).toNat * 8)).block, (ad443.add ((x5_1).toNat * 8)).off + 4, none⟩ = some (.int .i64 ((rd_T46 l0 x5_1).f4)) ∧ w'.cell? ⟨(ad443.add ((x5_1).toNat * 8)).block, (ad443.add ((x5_1).toNat * 8)).off + 5, none⟩ = some (.slice A443_5 ((rd_T46 l0 x5_1).f5).length c443_5) ∧ w'.cell? ⟨(ad443.add ((x5_1).toNat * 8)).block, (ad443.add ((x5_1).toNat * 8)).off + 6, none⟩ = some (.slice A443_6 ((rd_T46 l0 x5_1).f6).length c443_6) ∧ w'.cell? ⟨(ad443.add ((x5_1).toNat * 8)).block, (ad443.add ((x5_1).toNat * 8)).off + 7, none⟩ = some (.slice A443_7 ((rd_T46 l0 x5_1).f7).length c443_7) ∧ w'.cell? (ad444.add ((x5_1).toNat * 8)) = some (.int .i64 ((rd_T46 l1 x5_1).f0)) ∧ w'.cell? ⟨(ad444.add ((x5_1).toNat * 8)).block, (ad444.add ((x5_1).toNat * 8)).off + 1, none⟩ = some (.int .i64 ((rd_T46 l1 x5_1).f1)) ∧ w'.cell? ⟨(ad444.add ((x5_1).toNat * 8)).block, (ad444.add ((x5_1).toNat * 8)).off + 2, none⟩ = some (.slice A444_2 ((rd_T46 l1 x5_1).f2).length c444_2) ∧ w'.cell? ⟨(ad444.add ((x5_1).toNat * 8)).block, (ad444.add ((x5_1).toNat * 8)).off + 3, none⟩ = some (.int .i64 ((rd_T46 l1 x5_1).f3)) ∧ w'.cell? ⟨(ad444.add ((x5_1).toNat * 8)).block, (ad444.add ((x5_1).toNat * 8)).off + 4, none⟩ = some (.int .i64 ((rd_T46 l1 x5_1).f4)) ∧ w'.cell? ⟨(ad444.add ((x5_1).toNat * 8)).block, (ad444.add ((x5_1).toNat * 8)).off + 5, none⟩ = some (.slice A444_5 ((rd_T46 l1 x5_1).f5).length c444_5) ∧ w'.cell? ⟨(ad444.add ((x5_1).toNat * 8)).block, (ad444.add ((x5_1).toNat * 8)).off + 6, none⟩ = some (.slice A444_6 ((rd_T46 l1 x5_1).f6).length c444_6) ∧ w'.cell? ⟨(ad444.add ((x5_1).toNat * 8)).block, (ad444.add ((x5_1).toNat * 8)).off + 7, none⟩ = some (.slice A444_7 ((rd_T46 l1 x5_1).f7).length c444_7)) (ds := []) #[false, false, false, false, false, false, false, false, false, false] (by kernel_rfl) rfl rfl ⟨((HB.out.cell (World.block_lt_of_cell? w _ hw443_0)).trans hw443_0), ((HB.out.cell (World.block_lt_of_cell? w _ hw443_1)).trans hw443_1), ((HB.out.cell (World.block_lt_of_cell? w _ hw443_2)).trans hw443_2), ((HB.out.cell (World.block_lt_of_cell? w _ hw443_3)).trans hw443_3), ((HB.out.cell (World.block_lt_of_cell? w _ hw443_4)).trans hw443_4), ((HB.out.cell (World.block_lt_of_cell? w _ hw443_5)).trans hw443_5), ((HB.out.cell (World.block_lt_of_cell? w _ hw443_6)).trans hw443_6), ((HB.out.cell (World.block_lt_of_cell? w _ hw443_7)).trans hw443_7), ((HB.out.cell (World.block_lt_of_cell? w _ hw444_0)).trans hw444_0), ((HB.out.cell (World.block_lt_of_cell? w _ hw444_1)).trans hw444_1), ((HB.out.cell (World.block_lt_of_cell? w _ hw444_2)).trans hw444_2), ((HB.out.cell (World.block_lt_of_cell? w _ hw444_3)).trans hw444_3), ((HB.out.cell (World.block_lt_of_cell? w _ hw444_4)).trans hw444_4), ((HB.out.cell (World.block_lt_of_cell? w _ hw444_5)).trans hw444_5), ((HB.out.cell (World.block_lt_of_cell? w _ hw444_6)).trans hw444_6), ((HB.out.cell (World.block_lt_of_cell? w _ hw444_7)).trans hw444_7)⟩ (fun hHeld => ?_); refine with_tabW laws_eqMethodS.tab6 laws_eqMethodS.bits6 (fun HT_ HW_ => ?_)
                generalize wr.drew = w11 at HB HR443_2 HR443_5 HR443_6 HR443_7 HR444_2 HR444_5 HR444_6 HR444_7 hx443_0 hx443_1 hx443_2 hx443_3 hx443_4 hx443_5 hx443_6 hx443_7 hx444_0 hx444_1 hx444_2 hx444_3 hx444_4 hx444_5 hx444_6 hx444_7 hHeld ⊢
                refine pure_ (i := 0) (N := some 17) (v := ?_) (a' := ?_) #[true, false, false, false, false, false, false, false, false, false] rfl rfl (any_of HT_.out (by kernel_rfl)) (fun _ _ _ h => h) (Or.inl ⟨by rfl, ?_⟩) ?_ ?_
                rotate_left
                · intro w'
                  go_simp
                  with_reducible rfl
                rotate_left
                · simp only [Act.put, List.setIfInBounds_toArray, List.set_cons_zero, List.set_cons_succ, i64_w, i32_w]
                  rfl
                refine pure_ (i := 1) (N := some 18) (v := ?_) (a' := ?_) #[true, true, false, false, false, false, false, false, false, false] rfl rfl (any_of HT_.out (by kernel_rfl)) (fun _ _ _ h => h) (Or.inl ⟨by rfl, ?_⟩) ?_ ?_
                rotate_left
                · intro w'
                  go_simp
                  with_reducible rfl
                rotate_left
                · simp only [Act.put, List.setIfInBounds_toArray, List.set_cons_zero, List.set_cons_succ, i64_w, i32_w]
                  rfl
                refine pure_ (i := 2) (N := some 19) (v := ?_) (a' := ?_) #[true, true, true, false, false, false, false, false, false, false] rfl rfl (any_of HT_.out (by kernel_rfl)) (fun _ _ _ h => h) (Or.inl ⟨by rfl, ?_⟩) ?_ ?_
                rotate_left
                · intro w'
                  go_simp
                  with_reducible rfl
                rotate_left
                · simp only [Act.put, List.setIfInBounds_toArray, List.set_cons_zero, List.set_cons_succ, i64_w, i32_w]
                  rfl
                refine pure_ (i := 4) (N := some 21) (v := ?_) (a' := ?_) #[true, true, true, false, true, false, false, false, false, false] rfl rfl (any_of HT_.out (by kernel_rfl)) (fun _ _ _ h => h) (Or.inl ⟨by rfl, ?_⟩) ?_ ?_
                rotate_left
                · intro w'
                  go_simp
                  with_reducible rfl
                rotate_left
                · simp only [Act.put, List.setIfInBounds_toArray, List.set_cons_zero, List.set_cons_succ, i64_w, i32_w]
                  rfl
                refine pure_ (i := 5) (N := some 22) (v := ?_) (a' := ?_) #[true, true, true, false, true, true, false, false, false, false] rfl rfl (any_of HT_.out (by kernel_rfl)) (fun _ _ _ h => h) (Or.inl ⟨by rfl, ?_⟩) ?_ ?_
                rotate_left
                · intro w'
                  go_simp
                  with_reducible rfl
                rotate_left
                · simp only [Act.put, List.setIfInBounds_toArray, List.set_cons_zero, List.set_cons_succ, i64_w, i32_w]
                  rfl
                refine pure_ (i := 6) (N := some 23) (v := ?_) (a' := ?_) #[true, true, true, false, true, true, true, false, false, false] rfl rfl (any_of HT_.out (by kernel_rfl)) (fun _ _ _ h => h) (Or.inl ⟨by rfl, ?_⟩) ?_ ?_
                rotate_left
                · intro w'
                  go_simp
                  with_reducible rfl
                rotate_left
                · simp only [Act.put, List.setIfInBounds_toArray, List.set_cons_zero, List.set_cons_succ, i64_w, i32_w]
                  rfl
                refine take_ (i := 3) (N := some 20) (v := ?_) (a' := ?_) #[true, true, true, true, true, true, true, false, false, false] rfl rfl (take_ofW HT_.out HW_.out (by kernel_rfl)) (fun _ _ _ h => h) (Or.inl ⟨by rfl, ?_⟩) hHeld ?_ ?_
                rotate_left
                · rintro w' ⟨s0, s1, s2, s3, s4, s5, s6, s7, s8, s9, s10, s11, s12, s13, s14, s15⟩
                  go_simp
                  with_reducible rfl
                rotate_left
                · simp only [Act.put, List.setIfInBounds_toArray, List.set_cons_zero, List.set_cons_succ, i64_w, i32_w]
                  rfl
                refine take_ (i := 7) (N := some 24) (v := ?_) (a' := ?_) #[true, true, true, true, true, true, true, true, false, false] rfl rfl (take_ofW HT_.out HW_.out (by kernel_rfl)) (fun _ _ _ h => h) (Or.inl ⟨by rfl, ?_⟩) hHeld ?_ ?_
                rotate_left
                · rintro w' ⟨s0, s1, s2, s3, s4, s5, s6, s7, s8, s9, s10, s11, s12, s13, s14, s15⟩
                  go_simp
                  with_reducible rfl
                rotate_left
                · simp only [Act.put, List.setIfInBounds_toArray, List.set_cons_zero, List.set_cons_succ, i64_w, i32_w]
                  rfl
                refine one_ (i := 8) (N := some 25) #[true, true, true, true, true, true, true, true, true, false] rfl rfl (one_of HT_.out (by kernel_rfl)) (by decide) (fun K hK => ?_)
                refine goes_ Try.func49 (by kernel_rfl) rfl #[.agg #[.int .i64 ((rd_T46 l0 x5_1).f0), .int .i64 ((rd_T46 l0 x5_1).f1), .slice A443_2 ((rd_T46 l0 x5_1).f2).length c443_2, .int .i64 ((rd_T46 l0 x5_1).f3), .int .i64 ((rd_T46 l0 x5_1).f4), .slice A443_5 ((rd_T46 l0 x5_1).f5).length c443_5, .slice A443_6 ((rd_T46 l0 x5_1).f6).length c443_6, .slice A443_7 ((rd_T46 l0 x5_1).f7).length c443_7], .agg #[.int .i64 ((rd_T46 l1 x5_1).f0), .int .i64 ((rd_T46 l1 x5_1).f1), .slice A444_2 ((rd_T46 l1 x5_1).f2).length c444_2, .int .i64 ((rd_T46 l1 x5_1).f3), .int .i64 ((rd_T46 l1 x5_1).f4), .slice A444_5 ((rd_T46 l1 x5_1).f5).length c444_5, .slice A444_6 ((rd_T46 l1 x5_1).f6).length c444_6, .slice A444_7 ((rd_T46 l1 x5_1).f7).length c444_7]] (by rfl) rfl rfl (by (try simp only [List.map_toArray, List.map_cons, List.map_nil]); first | done | rfl | (simp only [List.length_drop, List.length_take]; rfl)) ?_
                with_reducible refine (laws_eqMethod.calls k1 ((rd_T46 l0 x5_1).f0) ((rd_T46 l0 x5_1).f1) _ _ ((rd_T46 l0 x5_1).f2) ((rd_T46 l0 x5_1).f3) ((rd_T46 l0 x5_1).f4) _ _ ((rd_T46 l0 x5_1).f5) _ _ ((rd_T46 l0 x5_1).f6) _ _ ((rd_T46 l0 x5_1).f7) ((rd_T46 l1 x5_1).f0) ((rd_T46 l1 x5_1).f1) _ _ ((rd_T46 l1 x5_1).f2) ((rd_T46 l1 x5_1).f3) ((rd_T46 l1 x5_1).f4) _ _ ((rd_T46 l1 x5_1).f5) _ _ ((rd_T46 l1 x5_1).f6) _ _ ((rd_T46 l1 x5_1).f7) false _ ?side1 ?side2 ?side3 ?side4 ?side5 ?side6 ?side7 ?side8 ?side9 ?side10 ?side11 ?side12 ?side13 ?side14 ?side15 ?side16 A7.out).mono ?_
                (case side1 => repeat (first | exact (Kd.C_below HR443_2.out HB.out) | (with_reducible refine Kd.C_alloc ?_ _) | (with_reducible refine Kd.C_drewN ?_ _) | (with_reducible refine Kd.C_drew ?_)))
                (case side2 => exact HC443_2.out)
                (case side3 => repeat (first | exact (Kd.C_below HR443_5.out HB.out) | (with_reducible refine Kd.C_alloc ?_ _) | (with_reducible refine Kd.C_drewN ?_ _) | (with_reducible refine Kd.C_drew ?_)))
                (case side4 => exact HC443_5.out)
                (case side5 => repeat (first | exact (Kd.C_below HR443_6.out HB.out) | (with_reducible refine Kd.C_alloc ?_ _) | (with_reducible refine Kd.C_drewN ?_ _) | (with_reducible refine Kd.C_drew ?_)))
                (case side6 => exact HC443_6.out)
                (case side7 => repeat (first | exact (Kd.C_below HR443_7.out HB.out) | (with_reducible refine Kd.C_alloc ?_ _) | (with_reducible refine Kd.C_drewN ?_ _) | (with_reducible refine Kd.C_drew ?_)))
                (case side8 => exact HC443_7.out)
                (case side9 => repeat (first | exact (Kd.C_below HR444_2.out HB.out) | (with_reducible refine Kd.C_alloc ?_ _) | (with_reducible refine Kd.C_drewN ?_ _) | (with_reducible refine Kd.C_drew ?_)))
                (case side10 => exact HC444_2.out)
                (case side11 => repeat (first | exact (Kd.C_below HR444_5.out HB.out) | (with_reducible refine Kd.C_alloc ?_ _) | (with_reducible refine Kd.C_drewN ?_ _) | (with_reducible refine Kd.C_drew ?_)))
                (case side12 => exact HC444_5.out)
                (case side13 => repeat (first | exact (Kd.C_below HR444_6.out HB.out) | (with_reducible refine Kd.C_alloc ?_ _) | (with_reducible refine Kd.C_drewN ?_ _) | (with_reducible refine Kd.C_drew ?_)))
                (case side14 => exact HC444_6.out)
                (case side15 => repeat (first | exact (Kd.C_below HR444_7.out HB.out) | (with_reducible refine Kd.C_alloc ?_ _) | (with_reducible refine Kd.C_drewN ?_ _) | (with_reducible refine Kd.C_drew ?_)))
                (case side16 => exact HC444_7.out)
                rintro e w12 ⟨rfl, hb⟩
                refine ⟨_, rfl, ?_⟩
                have n0_ := Aside0.mk (below_step (by repeat (first | (with_reducible first | exact HB.out | apply below_alloc | apply pw_below_drewN | apply below_drew1) | exact HB.out)) hb)
                clear HB
                have HB := n0_
                clear n0_
                (try clear hb)
                (try clear hb2)
                (try clear hk)
                (try clear hi)
                refine hK.out _ _ ⟨((HB.out.cell (World.block_lt_of_cell? w _ hw443_0)).trans hw443_0), ((HB.out.cell (World.block_lt_of_cell? w _ hw443_1)).trans hw443_1), ((HB.out.cell (World.block_lt_of_cell? w _ hw443_2)).trans hw443_2), ((HB.out.cell (World.block_lt_of_cell? w _ hw443_3)).trans hw443_3), ((HB.out.cell (World.block_lt_of_cell? w _ hw443_4)).trans hw443_4), ((HB.out.cell (World.block_lt_of_cell? w _ hw443_5)).trans hw443_5), ((HB.out.cell (World.block_lt_of_cell? w _ hw443_6)).trans hw443_6), ((HB.out.cell (World.block_lt_of_cell? w _ hw443_7)).trans hw443_7), ((HB.out.cell (World.block_lt_of_cell? w _ hw444_0)).trans hw444_0), ((HB.out.cell (World.block_lt_of_cell? w _ hw444_1)).trans hw444_1), ((HB.out.cell (World.block_lt_of_cell? w _ hw444_2)).trans hw444_2), ((HB.out.cell (World.block_lt_of_cell? w _ hw444_3)).trans hw444_3), ((HB.out.cell (World.block_lt_of_cell? w _ hw444_4)).trans hw444_4), ((HB.out.cell (World.block_lt_of_cell? w _ hw444_5)).trans hw444_5), ((HB.out.cell (World.block_lt_of_cell? w _ hw444_6)).trans hw444_6), ((HB.out.cell (World.block_lt_of_cell? w _ hw444_7)).trans hw444_7)⟩ (fun hHeld => ?_)
                clear hK K
                refine norm_ (a' := ?_) ?_ ?_
                rotate_left
                · show Act.put _ (some 25) _ = _
                  simp only [Act.put, List.setIfInBounds_toArray, List.set_cons_zero, List.set_cons_succ, i64_w, i32_w]
                  rfl
                refine pure_ (i := 9) (N := some 26) (v := ?_) (a' := ?_) #[true, true, true, true, true, true, true, true, true, true] rfl rfl (any_of HT_.out (by kernel_rfl)) (fun _ _ _ h => h) (Or.inl ⟨by rfl, ?_⟩) ?_ ?_
                rotate_left
                · intro w'
                  go_simp
                  with_reducible rfl
                rotate_left
                · simp only [Act.put, List.setIfInBounds_toArray, List.set_cons_zero, List.set_cons_succ, i64_w, i32_w]
                  rfl
                refine done_ (done_of HT_.out (by kernel_rfl)) ?_
                try go_wp2
                go_ret
                exact ⟨by first | rfl | (simp [errW_none, errW_some] <;> rfl) | (simp [*, errW_none, errW_some] <;> rfl), by repeat (first | (with_reducible first | exact HB.out | apply below_alloc | apply pw_below_drewN | apply below_drew1) | exact HB.out)⟩
            · rw [if_neg c6] at H
              exact absurd H (by simp)
          · rw [if_neg c5] at H
            exact absurd H (by simp)
        · rw [if_neg c4] at H
          have c4b0 : decide (x5_1 < (l0.length : Int)) = false := decide_eq_false c4
          clear c4
          obtain rfl := Option.some.inj H
          simp only [Option.some.injEq, Prod.mk.injEq] at H
          obtain ⟨rfl⟩ := H
          go_wp2
          go_ret
          exact ⟨by first | rfl | (simp [errW_none, errW_some] <;> rfl) | (simp [*, errW_none, errW_some] <;> rfl), by repeat (first | (with_reducible first | exact HB.out | apply below_alloc | apply pw_below_drewN | apply below_drew1) | exact HB.out)⟩
  · rw [if_neg c3] at H
    have c3b0 : ((l0.length : Int) == (l1.length : Int)) = false := beq_eq_false_iff_ne.mpr c3
    have c3b1 : ((l0.length : Int) != (l1.length : Int)) = true := bne_iff_ne.mpr c3
    have c3b2 : (l0.length == l1.length) = false := by first | simpa using c3 | (simp at c3 ⊢; omega)
    obtain rfl := Option.some.inj H
    simp only [Option.some.injEq, Prod.mk.injEq] at H
    obtain ⟨rfl⟩ := H
    go_enter Try.func27, Try.ntmps27
    go_wp2
    go_ret
    exact ⟨by first | rfl | (simp [errW_none, errW_some] <;> rfl) | (simp [*, errW_none, errW_some] <;> rfl), by repeat (first | (with_reducible first | exact HB.out | apply below_alloc | apply pw_below_drewN | apply below_drew1) | exact HB.out)⟩
end Go.Proofs.Ytedodaifpekahaa.P

end
