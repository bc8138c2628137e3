/- A part of the claim FnExactUnitOk: texts of this session and texts that its program printed out of the translation, joined. -/
import Derived.Test.YtedodaifpekahaaCFnExactUnitOk21
import Derived.Test.YtedodaifpekahaaCFnExactUnitOk29
import Derived.Test.YtedodaifpekahaaCFnExactUnitOk28
import Derived.Test.YtedodaifpekahaaCFnExactUnitOk0
import Derived.Test.YtedodaifpekahaaCFnExactUnitOk1
import Derived.Test.YtedodaifpekahaaCFnExactUnitOk2
import Derived.Test.YtedodaifpekahaaCFnExactUnitOk3
import Derived.Test.YtedodaifpekahaaCFnExactUnitOk4
import Derived.Test.YtedodaifpekahaaCFnExactUnitOk5
import Derived.Test.YtedodaifpekahaaCFnExactUnitOk6
import Derived.Test.YtedodaifpekahaaCFnExactUnitOk7
import Derived.Test.YtedodaifpekahaaCFnExactUnitOk8
import Derived.Test.YtedodaifpekahaaCFnExactUnitOk9
import Derived.Test.YtedodaifpekahaaCFnExactUnitOk10
import Derived.Test.YtedodaifpekahaaCFnExactUnitOk11
import Derived.Test.YtedodaifpekahaaCFnExactUnitOk12
import Derived.Test.YtedodaifpekahaaCFnExactUnitOk13
import Derived.Test.YtedodaifpekahaaCFnExactUnitOk14
import Derived.Test.YtedodaifpekahaaCFnExactUnitOk15
import Derived.Test.YtedodaifpekahaaCFnExactUnitOk16
import Derived.Test.YtedodaifpekahaaCFnExactUnitOk17
import Derived.Test.YtedodaifpekahaaCFnExactUnitOk18
import Derived.Test.YtedodaifpekahaaCFnExactUnitOk19
import Derived.Test.YtedodaifpekahaaCFnExactUnitOk20
import Derived.Test.YtedodaifpekahaaCFnExactUnitOk22
import Derived.Test.YtedodaifpekahaaCFnExactUnitOk23
import Derived.Test.YtedodaifpekahaaCFnExactUnitOk24
import Derived.Test.YtedodaifpekahaaCFnExactUnitOk25
import Derived.Test.YtedodaifpekahaaCFnExactUnitOk26
import Derived.Test.YtedodaifpekahaaCFnExactUnitOk27
section

namespace Go.Proofs.Ytedodaifpekahaa.P
open Go.RowKit Go.Proofs.YtedodaifpekahaaW.PrintWords Go.Proofs.YtedodaifpekahaaW.PrintLast Go.Proofs.YtedodaifpekahaaW.PrintMore
attribute [local go_sem] max2_int min2_int max_two min_two max_three min_three max_four min_four
set_option linter.unusedVariables false
set_option linter.unusedSimpArgs false
set_option maxHeartbeats 8000000 in
set_option maxRecDepth 100000 in
theorem impl_codeOk.calls (k : Nat) (A0_0 : Option Addr) (c0_0 : Nat) (l0_0 : List (S76)) (A0_1 : Option Addr) (c0_1 : Nat) (l0_1 : List (S46)) (a1_0 : Int) (a1_1 : Int) (A1_2 : Option Addr) (c1_2 : Nat) (l1_2 : List Int) (a1_3 : Int) (a1_4 : Int) (A1_5 : Option Addr) (c1_5 : Nat) (l1_5 : List (S67)) (A1_6 : Option Addr) (c1_6 : Nat) (l1_6 : List (S70)) (A1_7 : Option Addr) (c1_7 : Nat) (l1_7 : List (S73)) (a2 : Int) (r : Bool) (w : World) (hr0_0 : Kd.C k76 w A0_0 l0_0.length l0_0) (hc0_0 : l0_0.length ≤ c0_0) (hr0_1 : Kd.C k46 w A0_1 l0_1.length l0_1) (hc0_1 : l0_1.length ≤ c0_1) (hr1_2 : Kd.C (Kd.int .i64) w A1_2 l1_2.length l1_2) (hc1_2 : l1_2.length ≤ c1_2) (hr1_5 : Kd.C k67 w A1_5 l1_5.length l1_5) (hc1_5 : l1_5.length ≤ c1_5) (hr1_6 : Kd.C k70 w A1_6 l1_6.length l1_6) (hc1_6 : l1_6.length ≤ c1_6) (hr1_7 : Kd.C k73 w A1_7 l1_7.length l1_7) (hc1_7 : l1_7.length ≤ c1_7) {gM : Nat} (hgm : w.heap[gM]? = some wantsO) (h : impl_codeOk.f k l0_0 l0_1 a1_0 a1_1 l1_2 a1_3 a1_4 l1_5 l1_6 l1_7 a2 = some r) :
    Calls Try.prog 23 #[.agg #[.slice A0_0 l0_0.length c0_0, .slice A0_1 l0_1.length c0_1], .agg #[.int .i64 a1_0, .int .i64 a1_1, .slice A1_2 l1_2.length c1_2, .int .i64 a1_3, .int .i64 a1_4, .slice A1_5 l1_5.length c1_5, .slice A1_6 l1_6.length c1_6, .slice A1_7 l1_7.length c1_7], .map (some gM)] w fun e w' => e = .returned (.bool r) ∧ Below w.heap.size w w' := by
  have HGM := Aside0.mk hgm
  clear hgm
  have hu31 := Try.underlying31
  have hu46 := Try.underlying46
  have hu67 := Try.underlying67
  have hu82 := Try.underlying82
  have hu70 := Try.underlying70
  have HR0_0 := Aside0.mk hr0_0
  have HC0_0 := Aside0.mk hc0_0
  clear hr0_0 hc0_0
  have HR0_1 := Aside0.mk hr0_1
  have HC0_1 := Aside0.mk hc0_1
  clear hr0_1 hc0_1
  have HR1_2 := Aside0.mk hr1_2
  have HC1_2 := Aside0.mk hc1_2
  clear hr1_2 hc1_2
  have HR1_5 := Aside0.mk hr1_5
  have HC1_5 := Aside0.mk hc1_5
  clear hr1_5 hc1_5
  have HR1_6 := Aside0.mk hr1_6
  have HC1_6 := Aside0.mk hc1_6
  clear hr1_6 hc1_6
  have HR1_7 := Aside0.mk hr1_7
  have HC1_7 := Aside0.mk hc1_7
  clear hr1_7 hc1_7
  have HB := Aside0.mk (Below.refl w.heap.size w)
  have H : (if (l1_5.length : Int) < 1 then (impl_codeOk.j0 k true l0_0 l0_1 a1_0 a1_1 l1_2 a1_3 a1_4 l1_5 l1_6 l1_7) else (if (l1_5.length : Int) > 12 then (impl_codeOk.j0 k true l0_0 l0_1 a1_0 a1_1 l1_2 a1_3 a1_4 l1_5 l1_6 l1_7) else (impl_codeOk.j0 k ((l1_6.length : Int) != (l1_5.length : Int)) l0_0 l0_1 a1_0 a1_1 l1_2 a1_3 a1_4 l1_5 l1_6 l1_7))) = some r := h
  clear h
  have HC4 := Aside0.mk H
  clear H
  go_enter Try.func23, Try.ntmps23
  go_upto_region 1 with (first | ((with_reducible refine gate_dst (N := 3) rfl ?_); (try (refine gate_guard (by rfl) ?_; dsimp only)); refine box_event ?hg (N := 3) ?hd (cs := #[.slice A0_0 l0_0.length c0_0, .slice A0_1 l0_1.length c0_1]) (t := 31) ?hr ?_; (case hd => rfl); (case hg => rfl); (case hr => first | (go_simp; done) | (go_simp; rfl)); intro gb372 hg w5 hbox hb; have n0_ := Aside0.mk (below_step (by repeat (first | (with_reducible first | exact HB.out | apply below_alloc | apply pw_below_drewN | apply below_drew1) | exact HB.out)) hb); have n1_ := Aside0.mk (hbox); have n2_ := Aside0.mk ((by rw [hg]; exact (below_size (by repeat (first | (with_reducible first | exact HB.out | apply below_alloc | apply pw_below_drewN | apply below_drew1) | exact HB.out))) : w.heap.size ≤ gb372)); have n3_ := Aside0.mk ((by rw [hg]; exact (below_size (by repeat (first | (with_reducible first | exact HB.out | apply below_alloc | apply pw_below_drewN | apply below_drew1) | exact HB.out))) : w.heap.size ≤ gb372)); clear HB; have HB := n0_; have BK372 := n1_; have GW372 := n2_; have GE372 := n3_; clear n0_ n1_ n2_ n3_; clear hb hbox hg) | ((with_reducible refine gate_dst (N := 4) rfl ?_); (try (refine gate_guard (by rfl) ?_; dsimp only)); refine box_event ?hg (N := 4) ?hd (cs := #[.int .i64 a1_0, .int .i64 a1_1, .slice A1_2 l1_2.length c1_2, .int .i64 a1_3, .int .i64 a1_4, .slice A1_5 l1_5.length c1_5, .slice A1_6 l1_6.length c1_6, .slice A1_7 l1_7.length c1_7]) (t := 46) ?hr ?_; (case hd => rfl); (case hg => rfl); (case hr => first | (go_simp; done) | (go_simp; rfl)); intro gb373 hg w6 hbox hb; have n0_ := Aside0.mk (blk_below (g := gb372) (o := .cells #[.slice A0_0 l0_0.length c0_0, .slice A0_1 l0_1.length c0_1] 31 (0, 0)) (by (with_reducible repeat (first | refine blk_drewN ?_ _ | refine blk_drew ?_ | refine blk_alloc ?_ _)); exact BK372.out) hb); have n1_ := Aside0.mk (below_step (by repeat (first | (with_reducible first | exact HB.out | apply below_alloc | apply pw_below_drewN | apply below_drew1 | refine below_set ?_ GE372.out) | exact HB.out)) hb); have n2_ := Aside0.mk (hbox); have n3_ := Aside0.mk ((by rw [hg]; exact (below_size (by repeat (first | (with_reducible first | exact HB.out | apply below_alloc | apply pw_below_drewN | apply below_drew1 | refine below_set ?_ GE372.out) | exact HB.out))) : w.heap.size ≤ gb373)); have n4_ := Aside0.mk ((by rw [hg]; exact (below_size (by repeat (first | (with_reducible first | exact HB.out | apply below_alloc | apply pw_below_drewN | apply below_drew1 | refine below_set ?_ GE372.out) | exact HB.out))) : w.heap.size ≤ gb373)); have n5_ := Aside0.mk ((by rw [hg]; exact Nat.ne_of_lt (blk_lt (g := gb372) (o := .cells #[.slice A0_0 l0_0.length c0_0, .slice A0_1 l0_1.length c0_1] 31 (0, 0)) (by (with_reducible repeat (first | refine blk_drewN ?_ _ | refine blk_drew ?_ | refine blk_alloc ?_ _)); exact BK372.out)) : gb372 ≠ gb373)); have n6_ := Aside0.mk ((by rw [hg]; exact Nat.ne_of_gt (blk_lt (g := gb372) (o := .cells #[.slice A0_0 l0_0.length c0_0, .slice A0_1 l0_1.length c0_1] 31 (0, 0)) (by (with_reducible repeat (first | refine blk_drewN ?_ _ | refine blk_drew ?_ | refine blk_alloc ?_ _)); exact BK372.out)) : gb373 ≠ gb372)); clear BK372; clear HB; have BK372 := n0_; have HB := n1_; have BK373 := n2_; have GW373 := n3_; have GE373 := n4_; have NB372_373 := n5_; have NB373_372 := n6_; clear n0_ n1_ n2_ n3_ n4_ n5_ n6_; clear hb hbox hg))
  (try simp only [Act.put, List.setIfInBounds_toArray, List.set_cons_zero, List.set_cons_succ])
  go_cut [31] (fun v31 wc => ∃ (kq : Nat) (x31_3 : Bool), v31 = .bool x31_3 ∧ Aside0 (impl_codeOk.j0 kq x31_3 l0_0 l0_1 a1_0 a1_1 l1_2 a1_3 a1_4 l1_5 l1_6 l1_7 = some r) ∧ Aside0 (kq ≤ k) ∧ Aside0 (wc.heap[gb372]? = some (.cells #[(.slice A0_0 l0_0.length c0_0), (.slice A0_1 l0_1.length c0_1)] 31 (0, 0))) ∧ Aside0 (wc.heap[gb373]? = some (.cells #[.int .i64 a1_0, .int .i64 a1_1, (.slice A1_2 l1_2.length c1_2), .int .i64 a1_3, .int .i64 a1_4, (.slice A1_5 l1_5.length c1_5), (.slice A1_6 l1_6.length c1_6), (.slice A1_7 l1_7.length c1_7)] 46 (0, 0))) ∧ Aside0 (Below w.heap.size w wc))
  case first =>
    have H := HC4.out
    clear HC4
    by_cases c7 : (l1_5.length : Int) < 1
    · rw [if_pos c7] at H
      have c7b0 : decide ((l1_5.length : Int) < 1) = true := decide_eq_true c7
      have c7b1 : decide (l1_5.length < 1) = true := decide_eq_true (by omega)
      clear c7
      (first | rw [c7b0] | (simp only [i64_w, i32_w]; rw [c7b0]) | skip)
      have H' := Aside0.mk H
      clear H
      have hnb8 := NB373_372.out
      have hnc8 := NB372_373.out
      have hcz9_0 : w6.cell? ⟨gb373, 0, none⟩ = some (.int .i64 a1_0) := (blk_cell BK373.out 0).trans rfl
      have hcz9_1 : w6.cell? ⟨gb373, 1, none⟩ = some (.int .i64 a1_1) := (blk_cell BK373.out 1).trans rfl
      have hcz9_2 : w6.cell? ⟨gb373, 2, none⟩ = some (.slice A1_2 l1_2.length c1_2) := (blk_cell BK373.out 2).trans rfl
      have hcz9_3 : w6.cell? ⟨gb373, 3, none⟩ = some (.int .i64 a1_3) := (blk_cell BK373.out 3).trans rfl
      have hcz9_4 : w6.cell? ⟨gb373, 4, none⟩ = some (.int .i64 a1_4) := (blk_cell BK373.out 4).trans rfl
      have hcz9_5 : w6.cell? ⟨gb373, 5, none⟩ = some (.slice A1_5 l1_5.length c1_5) := (blk_cell BK373.out 5).trans rfl
      have hcz9_6 : w6.cell? ⟨gb373, 6, none⟩ = some (.slice A1_6 l1_6.length c1_6) := (blk_cell BK373.out 6).trans rfl
      have hcz9_7 : w6.cell? ⟨gb373, 7, none⟩ = some (.slice A1_7 l1_7.length c1_7) := (blk_cell BK373.out 7).trans rfl
      have hfz9_0 := blk_frozen BK373.out 0
      have hfz9_1 := blk_frozen BK373.out 1
      have hfz9_2 := blk_frozen BK373.out 2
      have hfz9_3 := blk_frozen BK373.out 3
      have hfz9_4 := blk_frozen BK373.out 4
      have hfz9_5 := blk_frozen BK373.out 5
      have hfz9_6 := blk_frozen BK373.out 6
      have hfz9_7 := blk_frozen BK373.out 7
      go_wp2
      go_meet
      case rel => exact ⟨_, (true), (by first | rfl | (simp; done) | (simp [*]; done)), H', ⟨by first | omega | exact Nat.le_refl _⟩, ⟨by (with_reducible repeat (first | refine blk_drewN ?_ _ | refine blk_drew ?_ | refine blk_alloc ?_ _)); exact BK372.out⟩, ⟨by (with_reducible repeat (first | refine blk_drewN ?_ _ | refine blk_drew ?_ | refine blk_alloc ?_ _)); exact BK373.out⟩, ⟨by repeat (first | (with_reducible first | exact HB.out | apply below_alloc | apply pw_below_drewN | apply below_drew1 | refine below_set ?_ GE372.out | refine below_set ?_ GE373.out) | exact HB.out)⟩⟩
    · rw [if_neg c7] at H
      have c7b0 : decide ((l1_5.length : Int) < 1) = false := decide_eq_false c7
      have c7b1 : decide (l1_5.length < 1) = false := decide_eq_false (by omega)
      clear c7
      (first | rw [c7b0] | (simp only [i64_w, i32_w]; rw [c7b0]) | skip)
      by_cases c10 : (l1_5.length : Int) > 12
      · rw [if_pos c10] at H
        have c10b0 : decide (12 < (l1_5.length : Int)) = true := decide_eq_true c10
        have c10b1 : decide (12 < l1_5.length) = true := decide_eq_true (by omega)
        clear c10
        have H' := Aside0.mk H
        clear H
        have hnb11 := NB373_372.out
        have hnc11 := NB372_373.out
        have hcz12_0 : w6.cell? ⟨gb373, 0, none⟩ = some (.int .i64 a1_0) := (blk_cell BK373.out 0).trans rfl
        have hcz12_1 : w6.cell? ⟨gb373, 1, none⟩ = some (.int .i64 a1_1) := (blk_cell BK373.out 1).trans rfl
        have hcz12_2 : w6.cell? ⟨gb373, 2, none⟩ = some (.slice A1_2 l1_2.length c1_2) := (blk_cell BK373.out 2).trans rfl
        have hcz12_3 : w6.cell? ⟨gb373, 3, none⟩ = some (.int .i64 a1_3) := (blk_cell BK373.out 3).trans rfl
        have hcz12_4 : w6.cell? ⟨gb373, 4, none⟩ = some (.int .i64 a1_4) := (blk_cell BK373.out 4).trans rfl
        have hcz12_5 : w6.cell? ⟨gb373, 5, none⟩ = some (.slice A1_5 l1_5.length c1_5) := (blk_cell BK373.out 5).trans rfl
        have hcz12_6 : w6.cell? ⟨gb373, 6, none⟩ = some (.slice A1_6 l1_6.length c1_6) := (blk_cell BK373.out 6).trans rfl
        have hcz12_7 : w6.cell? ⟨gb373, 7, none⟩ = some (.slice A1_7 l1_7.length c1_7) := (blk_cell BK373.out 7).trans rfl
        have hfz12_0 := blk_frozen BK373.out 0
        have hfz12_1 := blk_frozen BK373.out 1
        have hfz12_2 := blk_frozen BK373.out 2
        have hfz12_3 := blk_frozen BK373.out 3
        have hfz12_4 := blk_frozen BK373.out 4
        have hfz12_5 := blk_frozen BK373.out 5
        have hfz12_6 := blk_frozen BK373.out 6
        have hfz12_7 := blk_frozen BK373.out 7
        go_wp2
        go_meet
        case rel => exact ⟨_, (true), (by first | rfl | (simp; done) | (simp [*]; done)), H', ⟨by first | omega | exact Nat.le_refl _⟩, ⟨by (with_reducible repeat (first | refine blk_drewN ?_ _ | refine blk_drew ?_ | refine blk_alloc ?_ _)); exact BK372.out⟩, ⟨by (with_reducible repeat (first | refine blk_drewN ?_ _ | refine blk_drew ?_ | refine blk_alloc ?_ _)); exact BK373.out⟩, ⟨by repeat (first | (with_reducible first | exact HB.out | apply below_alloc | apply pw_below_drewN | apply below_drew1 | refine below_set ?_ GE372.out | refine below_set ?_ GE373.out) | exact HB.out)⟩⟩
      · rw [if_neg c10] at H
        have c10b0 : decide (12 < (l1_5.length : Int)) = false := decide_eq_false c10
        have c10b1 : decide (12 < l1_5.length) = false := decide_eq_false (by omega)
        clear c10
        have H' := Aside0.mk H
        clear H
        have hnb13 := NB373_372.out
        have hnc13 := NB372_373.out
        have hcz14_0 : w6.cell? ⟨gb373, 0, none⟩ = some (.int .i64 a1_0) := (blk_cell BK373.out 0).trans rfl
        have hcz14_1 : w6.cell? ⟨gb373, 1, none⟩ = some (.int .i64 a1_1) := (blk_cell BK373.out 1).trans rfl
        have hcz14_2 : w6.cell? ⟨gb373, 2, none⟩ = some (.slice A1_2 l1_2.length c1_2) := (blk_cell BK373.out 2).trans rfl
        have hcz14_3 : w6.cell? ⟨gb373, 3, none⟩ = some (.int .i64 a1_3) := (blk_cell BK373.out 3).trans rfl
        have hcz14_4 : w6.cell? ⟨gb373, 4, none⟩ = some (.int .i64 a1_4) := (blk_cell BK373.out 4).trans rfl
        have hcz14_5 : w6.cell? ⟨gb373, 5, none⟩ = some (.slice A1_5 l1_5.length c1_5) := (blk_cell BK373.out 5).trans rfl
        have hcz14_6 : w6.cell? ⟨gb373, 6, none⟩ = some (.slice A1_6 l1_6.length c1_6) := (blk_cell BK373.out 6).trans rfl
        have hcz14_7 : w6.cell? ⟨gb373, 7, none⟩ = some (.slice A1_7 l1_7.length c1_7) := (blk_cell BK373.out 7).trans rfl
        have hfz14_0 := blk_frozen BK373.out 0
        have hfz14_1 := blk_frozen BK373.out 1
        have hfz14_2 := blk_frozen BK373.out 2
        have hfz14_3 := blk_frozen BK373.out 3
        have hfz14_4 := blk_frozen BK373.out 4
        have hfz14_5 := blk_frozen BK373.out 5
        have hfz14_6 := blk_frozen BK373.out 6
        have hfz14_7 := blk_frozen BK373.out 7
        go_wp2
        go_meet
        case rel => exact ⟨_, (((l1_6.length : Int) != (l1_5.length : Int))), (by first | rfl | (simp; done) | (simp [*]; done)), H', ⟨by first | omega | exact Nat.le_refl _⟩, ⟨by (with_reducible repeat (first | refine blk_drewN ?_ _ | refine blk_drew ?_ | refine blk_alloc ?_ _)); exact BK372.out⟩, ⟨by (with_reducible repeat (first | refine blk_drewN ?_ _ | refine blk_drew ?_ | refine blk_alloc ?_ _)); exact BK373.out⟩, ⟨by repeat (first | (with_reducible first | exact HB.out | apply below_alloc | apply pw_below_drewN | apply below_drew1 | refine below_set ?_ GE372.out | refine below_set ?_ GE373.out) | exact HB.out)⟩⟩
  case rest =>
    clear HC4
    try clear c1
    try clear c2
    try clear p2
    try clear c7
    try clear c7b0
    try clear c7b1
    try clear c8
    try clear c10
    try clear c10b0
    try clear c10b1
    try clear c11
    try clear c13
    try clear hcz12_0
    try clear hcz12_1
    try clear hcz12_2
    try clear hcz12_3
    try clear hcz12_4
    try clear hcz12_5
    try clear hcz12_6
    try clear hcz12_7
    try clear hcz14_0
    try clear hcz14_1
    try clear hcz14_2
    try clear hcz14_3
    try clear hcz14_4
    try clear hcz14_5
    try clear hcz14_6
    try clear hcz14_7
    try clear hcz9_0
    try clear hcz9_1
    try clear hcz9_2
    try clear hcz9_3
    try clear hcz9_4
    try clear hcz9_5
    try clear hcz9_6
    try clear hcz9_7
    try clear hfz12_0
    try clear hfz12_1
    try clear hfz12_2
    try clear hfz12_3
    try clear hfz12_4
    try clear hfz12_5
    try clear hfz12_6
    try clear hfz12_7
    try clear hfz14_0
    try clear hfz14_1
    try clear hfz14_2
    try clear hfz14_3
    try clear hfz14_4
    try clear hfz14_5
    try clear hfz14_6
    try clear hfz14_7
    try clear hfz9_0
    try clear hfz9_1
    try clear hfz9_2
    try clear hfz9_3
    try clear hfz9_4
    try clear hfz9_5
    try clear hfz9_6
    try clear hfz9_7
    obtain ⟨kq, x31_3, rfl, HA, HJ3, BK372, BK373, HB⟩ := hcut
    cases kq with
    | zero => exact absurd HA.out (by simp [impl_codeOk.j0])
    | succ kj3 =>
      have H := HA.out
      clear HA
      simp only [impl_codeOk.j0] at H
      by_cases c15 : x31_3 = true
      · subst c15
        have H1 : (some false) = some r := by rw [if_pos rfl] at H; exact H
        clear H
        have H := H1
        clear H1
        obtain rfl := Option.some.inj H
        simp only [Option.some.injEq, Prod.mk.injEq] at H
        obtain ⟨rfl⟩ := H
        go_wp2
        go_ret
        exact ⟨by first | rfl | (simp [errW_none, errW_some] <;> rfl) | (simp [*, errW_none, errW_some] <;> rfl), by repeat (first | (with_reducible first | exact HB.out | apply below_alloc | apply pw_below_drewN | apply below_drew1 | refine below_set ?_ GE372.out | refine below_set ?_ GE373.out) | exact HB.out)⟩
      · replace c15 := Bool.eq_false_iff.mpr c15
        subst c15
        have H1 : (impl_codeOk.l0 kj3 l1_5 (l1_5.length : Int) 0 l0_0 l0_1 a1_0 a1_1 l1_2 a1_3 a1_4 l1_5 l1_6 l1_7) = some r := by rw [if_neg (show ¬ (false = true) by decide)] at H; exact H
        clear H
        have H := H1
        clear H1
        have H' := Aside0.mk H
        clear H
        have hnb16 := NB373_372.out
        have hnc16 := NB372_373.out
        have hcz17_0 : wc.cell? ⟨gb373, 0, none⟩ = some (.int .i64 a1_0) := (blk_cell BK373.out 0).trans rfl
        have hcz17_1 : wc.cell? ⟨gb373, 1, none⟩ = some (.int .i64 a1_1) := (blk_cell BK373.out 1).trans rfl
        have hcz17_2 : wc.cell? ⟨gb373, 2, none⟩ = some (.slice A1_2 l1_2.length c1_2) := (blk_cell BK373.out 2).trans rfl
        have hcz17_3 : wc.cell? ⟨gb373, 3, none⟩ = some (.int .i64 a1_3) := (blk_cell BK373.out 3).trans rfl
        have hcz17_4 : wc.cell? ⟨gb373, 4, none⟩ = some (.int .i64 a1_4) := (blk_cell BK373.out 4).trans rfl
        have hcz17_5 : wc.cell? ⟨gb373, 5, none⟩ = some (.slice A1_5 l1_5.length c1_5) := (blk_cell BK373.out 5).trans rfl
        have hcz17_6 : wc.cell? ⟨gb373, 6, none⟩ = some (.slice A1_6 l1_6.length c1_6) := (blk_cell BK373.out 6).trans rfl
        have hcz17_7 : wc.cell? ⟨gb373, 7, none⟩ = some (.slice A1_7 l1_7.length c1_7) := (blk_cell BK373.out 7).trans rfl
        have hfz17_0 := blk_frozen BK373.out 0
        have hfz17_1 := blk_frozen BK373.out 1
        have hfz17_2 := blk_frozen BK373.out 2
        have hfz17_3 := blk_frozen BK373.out 3
        have hfz17_4 := blk_frozen BK373.out 4
        have hfz17_5 := blk_frozen BK373.out 5
        have hfz17_6 := blk_frozen BK373.out 6
        have hfz17_7 := blk_frozen BK373.out 7
        go_wp2
        go_loopg [35] kj3 (fun kq v35 w' => ∃ (x35_2 : Int), v35 = .int .i64 x35_2 ∧ Aside0 (impl_codeOk.l0 kq l1_5 (l1_5.length : Int) x35_2 l0_0 l0_1 a1_0 a1_1 l1_2 a1_3 a1_4 l1_5 l1_6 l1_7 = some r) ∧ Aside0 (kq ≤ kj3) ∧ Aside0 (w'.heap[gb372]? = some (.cells #[(.slice A0_0 l0_0.length c0_0), (.slice A0_1 l0_1.length c0_1)] 31 (0, 0))) ∧ Aside0 (w'.heap[gb373]? = some (.cells #[.int .i64 a1_0, .int .i64 a1_1, (.slice A1_2 l1_2.length c1_2), .int .i64 a1_3, .int .i64 a1_4, (.slice A1_5 l1_5.length c1_5), (.slice A1_6 l1_6.length c1_6), (.slice A1_7 l1_7.length c1_7)] 46 (0, 0))) ∧ Aside0 (Below w.heap.size w w'))
        case atStart => exact ⟨(0), (by first | rfl | (simp; done) | (simp [*]; done)), H', ⟨Nat.le_refl _⟩, ⟨by (with_reducible repeat (first | refine blk_drewN ?_ _ | refine blk_drew ?_ | refine blk_alloc ?_ _)); exact BK372.out⟩, ⟨by (with_reducible repeat (first | refine blk_drewN ?_ _ | refine blk_drew ?_ | refine blk_alloc ?_ _)); exact BK373.out⟩, ⟨by repeat (first | (with_reducible first | exact HB.out | apply below_alloc | apply pw_below_drewN | apply below_drew1 | refine below_set ?_ GE372.out | refine below_set ?_ GE373.out) | exact HB.out)⟩⟩
        case round =>
          clear H'
          try clear c1
          try clear c2
          try clear p2
          try clear c7
          try clear c7b0
          try clear c7b1
          try clear c8
          try clear c10
          try clear c10b0
          try clear c10b1
          try clear c11
          try clear c13
          try clear c15
          try clear c16
          try clear hcz12_0
          try clear hcz12_1
          try clear hcz12_2
          try clear hcz12_3
          try clear hcz12_4
          try clear hcz12_5
          try clear hcz12_6
          try clear hcz12_7
          try clear hcz14_0
          try clear hcz14_1
          try clear hcz14_2
          try clear hcz14_3
          try clear hcz14_4
          try clear hcz14_5
          try clear hcz14_6
          try clear hcz14_7
          try clear hcz17_0
          try clear hcz17_1
          try clear hcz17_2
          try clear hcz17_3
          try clear hcz17_4
          try clear hcz17_5
          try clear hcz17_6
          try clear hcz17_7
          try clear hcz9_0
          try clear hcz9_1
          try clear hcz9_2
          try clear hcz9_3
          try clear hcz9_4
          try clear hcz9_5
          try clear hcz9_6
          try clear hcz9_7
          try clear hfz12_0
          try clear hfz12_1
          try clear hfz12_2
          try clear hfz12_3
          try clear hfz12_4
          try clear hfz12_5
          try clear hfz12_6
          try clear hfz12_7
          try clear hfz14_0
          try clear hfz14_1
          try clear hfz14_2
          try clear hfz14_3
          try clear hfz14_4
          try clear hfz14_5
          try clear hfz14_6
          try clear hfz14_7
          try clear hfz17_0
          try clear hfz17_1
          try clear hfz17_2
          try clear hfz17_3
          try clear hfz17_4
          try clear hfz17_5
          try clear hfz17_6
          try clear hfz17_7
          try clear hfz9_0
          try clear hfz9_1
          try clear hfz9_2
          try clear hfz9_3
          try clear hfz9_4
          try clear hfz9_5
          try clear hfz9_6
          try clear hfz9_7
          try clear p2
          obtain ⟨x35_2, rfl, HA, HK2, BK372, BK373, HB⟩ := hrel
          cases gk with
          | zero => exact absurd HA.out (by simp [impl_codeOk.l0])
          | succ k2 =>
            have H := HA.out
            clear HA
            simp only [impl_codeOk.l0] at H
            by_cases c18 : x35_2 < (l1_5.length : Int)
            · rw [if_pos c18] at H
              have c18b0 : decide (x35_2 < (l1_5.length : Int)) = true := decide_eq_true c18
              clear c18
              by_cases c19 : 0 ≤ x35_2
              · rw [if_pos c19] at H
                have c19b0 : decide (0 ≤ x35_2) = true := decide_eq_true c19
                clear c19
                by_cases c20 : x35_2 < (l1_5.length : Int)
                · rw [if_pos c20] at H
                  have c20b0 : decide (x35_2 < (l1_5.length : Int)) = true := decide_eq_true c20
                  clear c20
                  replace H := Option.bind_eq_some_iff.mp H
                  obtain ⟨⟨t376, t377, t378⟩, A210, H⟩ := H
                  replace H : (if t378 = true then ((impl_operandOk.f k2 l0_0 l0_1 a1_0 a1_1 l1_2 a1_3 a1_4 l1_5 l1_6 l1_7 ((rd_T67 l1_5 x35_2).f0) ((rd_T67 l1_5 x35_2).f1) ((rd_T67 l1_5 x35_2).f2) t376 ((rd_T67 l1_5 x35_2).f1)).bind fun t380 => (if t380 = true then ((impl_operandOk.f k2 l0_0 l0_1 a1_0 a1_1 l1_2 a1_3 a1_4 l1_5 l1_6 l1_7 ((rd_T67 l1_5 x35_2).f0) ((rd_T67 l1_5 x35_2).f1) ((rd_T67 l1_5 x35_2).f2) t377 ((rd_T67 l1_5 x35_2).f2)).bind fun t381 => (if t381 = true then (impl_codeOk.l0 k2 l1_5 (l1_5.length : Int) (wrap64 (x35_2 + 1)) l0_0 l0_1 a1_0 a1_1 l1_2 a1_3 a1_4 l1_5 l1_6 l1_7) else (some false))) else (some false))) else (some false)) = some r := H
                  have A21 := Aside0.mk A210
                  clear A210
                  by_cases c22 : t378 = true
                  · subst c22
                    have H1 : ((impl_operandOk.f k2 l0_0 l0_1 a1_0 a1_1 l1_2 a1_3 a1_4 l1_5 l1_6 l1_7 ((rd_T67 l1_5 x35_2).f0) ((rd_T67 l1_5 x35_2).f1) ((rd_T67 l1_5 x35_2).f2) t376 ((rd_T67 l1_5 x35_2).f1)).bind fun t380 => (if t380 = true then ((impl_operandOk.f k2 l0_0 l0_1 a1_0 a1_1 l1_2 a1_3 a1_4 l1_5 l1_6 l1_7 ((rd_T67 l1_5 x35_2).f0) ((rd_T67 l1_5 x35_2).f1) ((rd_T67 l1_5 x35_2).f2) t377 ((rd_T67 l1_5 x35_2).f2)).bind fun t381 => (if t381 = true then (impl_codeOk.l0 k2 l1_5 (l1_5.length : Int) (wrap64 (x35_2 + 1)) l0_0 l0_1 a1_0 a1_1 l1_2 a1_3 a1_4 l1_5 l1_6 l1_7) else (some false))) else (some false))) = some r := by rw [if_pos rfl] at H; exact H
                    clear H
                    have H := H1
                    clear H1
                    replace H := Option.bind_eq_some_iff.mp H
                    obtain ⟨t380, A230, H⟩ := H
                    replace H : (if t380 = true then ((impl_operandOk.f k2 l0_0 l0_1 a1_0 a1_1 l1_2 a1_3 a1_4 l1_5 l1_6 l1_7 ((rd_T67 l1_5 x35_2).f0) ((rd_T67 l1_5 x35_2).f1) ((rd_T67 l1_5 x35_2).f2) t377 ((rd_T67 l1_5 x35_2).f2)).bind fun t381 => (if t381 = true then (impl_codeOk.l0 k2 l1_5 (l1_5.length : Int) (wrap64 (x35_2 + 1)) l0_0 l0_1 a1_0 a1_1 l1_2 a1_3 a1_4 l1_5 l1_6 l1_7) else (some false))) else (some false)) = some r := H
                    have A23 := Aside0.mk A230
                    clear A230
                    by_cases c24 : t380 = true
                    · subst c24
                      have H1 : ((impl_operandOk.f k2 l0_0 l0_1 a1_0 a1_1 l1_2 a1_3 a1_4 l1_5 l1_6 l1_7 ((rd_T67 l1_5 x35_2).f0) ((rd_T67 l1_5 x35_2).f1) ((rd_T67 l1_5 x35_2).f2) t377 ((rd_T67 l1_5 x35_2).f2)).bind fun t381 => (if t381 = true then (impl_codeOk.l0 k2 l1_5 (l1_5.length : Int) (wrap64 (x35_2 + 1)) l0_0 l0_1 a1_0 a1_1 l1_2 a1_3 a1_4 l1_5 l1_6 l1_7) else (some false))) = some r := by rw [if_pos rfl] at H; exact H
                      clear H
                      have H := H1
                      clear H1
                      replace H := Option.bind_eq_some_iff.mp H
                      obtain ⟨t381, A250, H⟩ := H
                      replace H : (if t381 = true then (impl_codeOk.l0 k2 l1_5 (l1_5.length : Int) (wrap64 (x35_2 + 1)) l0_0 l0_1 a1_0 a1_1 l1_2 a1_3 a1_4 l1_5 l1_6 l1_7) else (some false)) = some r := H
                      have A25 := Aside0.mk A250
                      clear A250
                      by_cases c26 : t381 = true
                      · subst c26
                        have H1 : (impl_codeOk.l0 k2 l1_5 (l1_5.length : Int) (wrap64 (x35_2 + 1)) l0_0 l0_1 a1_0 a1_1 l1_2 a1_3 a1_4 l1_5 l1_6 l1_7) = some r := by rw [if_pos rfl] at H; exact H
                        clear H
                        have H := H1
                        clear H1
                        have H' := Aside0.mk H
                        clear H
                        have p374 : 0 ≤ (x35_2 : Int) := of_decide_eq_true (by first | (with_reducible assumption) | assumption)
                        have q374 : x35_2 < (l1_5.length : Int) := of_decide_eq_true (by first | (with_reducible assumption) | assumption)
                        obtain ⟨ad374, e374, hx374_0, hx374_1, hx374_2⟩ := at_T67 HR1_5.out x35_2 p374 q374
                        cases e374
                        replace hx374_0 := (HB.out.cell (World.block_lt_of_cell? w _ hx374_0)).trans hx374_0
                        replace hx374_1 := (HB.out.cell (World.block_lt_of_cell? w _ hx374_1)).trans hx374_1
                        replace hx374_2 := (HB.out.cell (World.block_lt_of_cell? w _ hx374_2)).trans hx374_2
                        replace p374 := eq_true p374
                        replace q374 := eq_true q374
                        go_wp2_with (first | ((with_reducible refine gate_dst (N := 8) rfl ?_); (try (refine gate_guard (by rfl) ?_; dsimp only)); refine box_event ?hg (N := 8) ?hd (cs := #[.int .i64 0, .int .i64 0, .int .i64 0]) (t := 67) ?hr ?_; (case hd => rfl); (case hg => rfl); (case hr => first | (go_simp; done) | (go_simp; rfl)); intro gb375 hg w27 hbox hb; have n0_ := Aside0.mk (blk_below (g := gb372) (o := .cells #[.slice A0_0 l0_0.length c0_0, .slice A0_1 l0_1.length c0_1] 31 (0, 0)) (by (with_reducible repeat (first | refine blk_drewN ?_ _ | refine blk_drew ?_ | refine blk_alloc ?_ _)); exact BK372.out) hb); have n1_ := Aside0.mk (blk_below (g := gb373) (o := .cells #[.int .i64 a1_0, .int .i64 a1_1, .slice A1_2 l1_2.length c1_2, .int .i64 a1_3, .int .i64 a1_4, .slice (some ad374) l1_5.length c1_5, .slice A1_6 l1_6.length c1_6, .slice A1_7 l1_7.length c1_7] 46 (0, 0)) (by (with_reducible repeat (first | refine blk_drewN ?_ _ | refine blk_drew ?_ | refine blk_alloc ?_ _)); exact BK373.out) hb); have n2_ := Aside0.mk (below_step (by repeat (first | (with_reducible first | exact HB.out | apply below_alloc | apply pw_below_drewN | apply below_drew1 | refine below_set ?_ GE372.out | refine below_set ?_ GE373.out) | exact HB.out)) hb); have n3_ := Aside0.mk (hbox); have n4_ := Aside0.mk ((by rw [hg]; exact (below_size (by repeat (first | (with_reducible first | exact HB.out | apply below_alloc | apply pw_below_drewN | apply below_drew1 | refine below_set ?_ GE372.out | refine below_set ?_ GE373.out) | exact HB.out))) : w.heap.size ≤ gb375)); have n5_ := Aside0.mk ((by rw [hg]; exact (below_size (by repeat (first | (with_reducible first | exact HB.out | apply below_alloc | apply pw_below_drewN | apply below_drew1 | refine below_set ?_ GE372.out | refine below_set ?_ GE373.out) | exact HB.out))) : w.heap.size ≤ gb375)); have n6_ := Aside0.mk ((by rw [hg]; exact Nat.ne_of_lt (blk_lt (g := gb372) (o := .cells #[.slice A0_0 l0_0.length c0_0, .slice A0_1 l0_1.length c0_1] 31 (0, 0)) (by (with_reducible repeat (first | refine blk_drewN ?_ _ | refine blk_drew ?_ | refine blk_alloc ?_ _)); exact BK372.out)) : gb372 ≠ gb375)); have n7_ := Aside0.mk ((by rw [hg]; exact Nat.ne_of_gt (blk_lt (g := gb372) (o := .cells #[.slice A0_0 l0_0.length c0_0, .slice A0_1 l0_1.length c0_1] 31 (0, 0)) (by (with_reducible repeat (first | refine blk_drewN ?_ _ | refine blk_drew ?_ | refine blk_alloc ?_ _)); exact BK372.out)) : gb375 ≠ gb372)); have n8_ := Aside0.mk ((by rw [hg]; exact Nat.ne_of_lt (blk_lt (g := gb373) (o := .cells #[.int .i64 a1_0, .int .i64 a1_1, .slice A1_2 l1_2.length c1_2, .int .i64 a1_3, .int .i64 a1_4, .slice (some ad374) l1_5.length c1_5, .slice A1_6 l1_6.length c1_6, .slice A1_7 l1_7.length c1_7] 46 (0, 0)) (by (with_reducible repeat (first | refine blk_drewN ?_ _ | refine blk_drew ?_ | refine blk_alloc ?_ _)); exact BK373.out)) : gb373 ≠ gb375)); have n9_ := Aside0.mk ((by rw [hg]; exact Nat.ne_of_gt (blk_lt (g := gb373) (o := .cells #[.int .i64 a1_0, .int .i64 a1_1, .slice A1_2 l1_2.length c1_2, .int .i64 a1_3, .int .i64 a1_4, .slice (some ad374) l1_5.length c1_5, .slice A1_6 l1_6.length c1_6, .slice A1_7 l1_7.length c1_7] 46 (0, 0)) (by (with_reducible repeat (first | refine blk_drewN ?_ _ | refine blk_drew ?_ | refine blk_alloc ?_ _)); exact BK373.out)) : gb375 ≠ gb373)); clear BK372; clear BK373; clear HB; have BK372 := n0_; have BK373 := n1_; have HB := n2_; have BK375 := n3_; have GW375 := n4_; have GE375 := n5_; have NB372_375 := n6_; have NB375_372 := n7_; have NB373_375 := n8_; have NB375_373 := n9_; clear n0_ n1_ n2_ n3_ n4_ n5_ n6_ n7_ n8_ n9_; clear hb hbox hg; have hnb28 := NB375_372.out; have hnc28 := NB372_375.out; have hnb29 := NB375_373.out; have hnc29 := NB373_375.out; have hcz30_0 : w27.cell? ⟨gb375, 0, none⟩ = some (.int .i64 0) := (blk_cell BK375.out 0).trans rfl; have hcz30_1 : w27.cell? ⟨gb375, 1, none⟩ = some (.int .i64 0) := (blk_cell BK375.out 1).trans rfl; have hcz30_2 : w27.cell? ⟨gb375, 2, none⟩ = some (.int .i64 0) := (blk_cell BK375.out 2).trans rfl; have hfz30_0 := blk_frozen BK375.out 0; have hfz30_1 := blk_frozen BK375.out 1; have hfz30_2 := blk_frozen BK375.out 2) | ((with_reducible refine gate_dst (N := 43) rfl ?_); refine want_event rfl rfl rfl rfl (blk_below HGM.out (by repeat (first | (with_reducible first | exact HB.out | apply below_alloc | apply pw_below_drewN | apply below_drew1 | refine below_set ?_ GE372.out | refine below_set ?_ GE373.out | refine below_set ?_ GE375.out) | exact HB.out))) A21.out ?_) | ((with_reducible refine gate_dst (N := 9) rfl ?_); (try (refine gate_guard (by rfl) ?_; dsimp only)); refine box_event ?hg (N := 9) ?hd (cs := #[.int .i64 0, .int .i64 0]) (t := 82) ?hr ?_; (case hd => rfl); (case hg => rfl); (case hr => first | (go_simp; done) | (go_simp; rfl)); intro gb379 hg w31 hbox hb; have n0_ := Aside0.mk (blk_below (g := gb372) (o := .cells #[.slice A0_0 l0_0.length c0_0, .slice A0_1 l0_1.length c0_1] 31 (0, 0)) (by (with_reducible repeat (first | refine blk_drewN ?_ _ | refine blk_drew ?_ | refine blk_alloc ?_ _)); refine blk_far ?_ NB372_375.out _; (with_reducible repeat (first | refine blk_drewN ?_ _ | refine blk_drew ?_ | refine blk_alloc ?_ _)); refine blk_far ?_ NB372_375.out _; (with_reducible repeat (first | refine blk_drewN ?_ _ | refine blk_drew ?_ | refine blk_alloc ?_ _)); refine blk_far ?_ NB372_375.out _; (with_reducible repeat (first | refine blk_drewN ?_ _ | refine blk_drew ?_ | refine blk_alloc ?_ _)); exact BK372.out) hb); have n1_ := Aside0.mk (blk_below (g := gb373) (o := .cells #[.int .i64 a1_0, .int .i64 a1_1, .slice A1_2 l1_2.length c1_2, .int .i64 a1_3, .int .i64 a1_4, .slice (some ad374) l1_5.length c1_5, .slice A1_6 l1_6.length c1_6, .slice A1_7 l1_7.length c1_7] 46 (0, 0)) (by (with_reducible repeat (first | refine blk_drewN ?_ _ | refine blk_drew ?_ | refine blk_alloc ?_ _)); refine blk_far ?_ NB373_375.out _; (with_reducible repeat (first | refine blk_drewN ?_ _ | refine blk_drew ?_ | refine blk_alloc ?_ _)); refine blk_far ?_ NB373_375.out _; (with_reducible repeat (first | refine blk_drewN ?_ _ | refine blk_drew ?_ | refine blk_alloc ?_ _)); refine blk_far ?_ NB373_375.out _; (with_reducible repeat (first | refine blk_drewN ?_ _ | refine blk_drew ?_ | refine blk_alloc ?_ _)); exact BK373.out) hb); have n2_ := Aside0.mk (blk_below (g := gb375) (o := .cells #[.int .i64 ((rd_T67 l1_5 x35_2).f0), .int .i64 ((rd_T67 l1_5 x35_2).f1), .int .i64 ((rd_T67 l1_5 x35_2).f2)] 67 (0, 0)) (by (with_reducible repeat (first | refine blk_drewN ?_ _ | refine blk_drew ?_ | refine blk_alloc ?_ _)); refine blk_put (cs := #[.int .i64 ((rd_T67 l1_5 x35_2).f0), .int .i64 ((rd_T67 l1_5 x35_2).f1), .int .i64 0]) ?_ 2 _ rfl; (with_reducible repeat (first | refine blk_drewN ?_ _ | refine blk_drew ?_ | refine blk_alloc ?_ _)); refine blk_put (cs := #[.int .i64 ((rd_T67 l1_5 x35_2).f0), .int .i64 0, .int .i64 0]) ?_ 1 _ rfl; (with_reducible repeat (first | refine blk_drewN ?_ _ | refine blk_drew ?_ | refine blk_alloc ?_ _)); refine blk_put (cs := #[.int .i64 0, .int .i64 0, .int .i64 0]) ?_ 0 _ rfl; (with_reducible repeat (first | refine blk_drewN ?_ _ | refine blk_drew ?_ | refine blk_alloc ?_ _)); exact BK375.out) hb); have n3_ := Aside0.mk (below_step (by repeat (first | (with_reducible first | exact HB.out | apply below_alloc | apply pw_below_drewN | apply below_drew1 | refine below_set ?_ GE372.out | refine below_set ?_ GE373.out | refine below_set ?_ GE375.out) | exact HB.out)) hb); have n4_ := Aside0.mk (hbox); have n5_ := Aside0.mk ((by rw [hg]; exact (below_size (by repeat (first | (with_reducible first | exact HB.out | apply below_alloc | apply pw_below_drewN | apply below_drew1 | refine below_set ?_ GE372.out | refine below_set ?_ GE373.out | refine below_set ?_ GE375.out) | exact HB.out))) : w.heap.size ≤ gb379)); have n6_ := Aside0.mk ((by rw [hg]; exact (below_size (by repeat (first | (with_reducible first | exact HB.out | apply below_alloc | apply pw_below_drewN | apply below_drew1 | refine below_set ?_ GE372.out | refine below_set ?_ GE373.out | refine below_set ?_ GE375.out) | exact HB.out))) : w.heap.size ≤ gb379)); have n7_ := Aside0.mk ((by rw [hg]; exact Nat.ne_of_lt (blk_lt (g := gb372) (o := .cells #[.slice A0_0 l0_0.length c0_0, .slice A0_1 l0_1.length c0_1] 31 (0, 0)) (by (with_reducible repeat (first | refine blk_drewN ?_ _ | refine blk_drew ?_ | refine blk_alloc ?_ _)); refine blk_far ?_ NB372_375.out _; (with_reducible repeat (first | refine blk_drewN ?_ _ | refine blk_drew ?_ | refine blk_alloc ?_ _)); refine blk_far ?_ NB372_375.out _; (with_reducible repeat (first | refine blk_drewN ?_ _ | refine blk_drew ?_ | refine blk_alloc ?_ _)); refine blk_far ?_ NB372_375.out _; (with_reducible repeat (first | refine blk_drewN ?_ _ | refine blk_drew ?_ | refine blk_alloc ?_ _)); exact BK372.out)) : gb372 ≠ gb379)); have n8_ := Aside0.mk ((by rw [hg]; exact Nat.ne_of_gt (blk_lt (g := gb372) (o := .cells #[.slice A0_0 l0_0.length c0_0, .slice A0_1 l0_1.length c0_1] 31 (0, 0)) (by (with_reducible repeat (first | refine blk_drewN ?_ _ | refine blk_drew ?_ | refine blk_alloc ?_ _)); refine blk_far ?_ NB372_375.out _; (with_reducible repeat (first | refine blk_drewN ?_ _ | refine blk_drew ?_ | refine blk_alloc ?_ _)); refine blk_far ?_ NB372_375.out _; (with_reducible repeat (first | refine blk_drewN ?_ _ | refine blk_drew ?_ | refine blk_alloc ?_ _)); refine blk_far ?_ NB372_375.out _; (with_reducible repeat (first | refine blk_drewN ?_ _ | refine blk_drew ?_ | refine blk_alloc ?_ _)); exact BK372.out)) : gb379 ≠ gb372)); have n9_ := Aside0.mk ((by rw [hg]; exact Nat.ne_of_lt (blk_lt (g := gb373) (o := .cells #[.int .i64 a1_0, .int .i64 a1_1, .slice A1_2 l1_2.length c1_2, .int .i64 a1_3, .int .i64 a1_4, .slice (some ad374) l1_5.length c1_5, .slice A1_6 l1_6.length c1_6, .slice A1_7 l1_7.length c1_7] 46 (0, 0)) (by (with_reducible repeat (first | refine blk_drewN ?_ _ | refine blk_drew ?_ | refine blk_alloc ?_ _)); refine blk_far ?_ NB373_375.out _; (with_reducible repeat (first | refine blk_drewN ?_ _ | refine blk_drew ?_ | refine blk_alloc ?_ _)); refine blk_far ?_ NB373_375.out _; (with_reducible repeat (first | refine blk_drewN ?_ _ | refine blk_drew ?_ | refine blk_alloc ?_ _)); refine blk_far ?_ NB373_375.out _; (with_reducible repeat (first | refine blk_drewN ?_ _ | refine blk_drew ?_ | refine blk_alloc ?_ _)); exact BK373.out)) : gb373 ≠ gb379)); have n10_ := Aside0.mk ((by rw [hg]; exact Nat.ne_of_gt (blk_lt (g := gb373) (o := .cells #[.int .i64 a1_0, .int .i64 a1_1, .slice A1_2 l1_2.length c1_2, .int .i64 a1_3, .int .i64 a1_4, .slice (some ad374) l1_5.length c1_5, .slice A1_6 l1_6.length c1_6, .slice A1_7 l1_7.length c1_7] 46 (0, 0)) (by (with_reducible repeat (first | refine blk_drewN ?_ _ | refine blk_drew ?_ | refine blk_alloc ?_ _)); refine blk_far ?_ NB373_375.out _; (with_reducible repeat (first | refine blk_drewN ?_ _ | refine blk_drew ?_ | refine blk_alloc ?_ _)); refine blk_far ?_ NB373_375.out _; (with_reducible repeat (first | refine blk_drewN ?_ _ | refine blk_drew ?_ | refine blk_alloc ?_ _)); refine blk_far ?_ NB373_375.out _; (with_reducible repeat (first | refine blk_drewN ?_ _ | refine blk_drew ?_ | refine blk_alloc ?_ _)); exact BK373.out)) : gb379 ≠ gb373)); have n11_ := Aside0.mk ((by rw [hg]; exact Nat.ne_of_lt (blk_lt (g := gb375) (o := .cells #[.int .i64 ((rd_T67 l1_5 x35_2).f0), .int .i64 ((rd_T67 l1_5 x35_2).f1), .int .i64 ((rd_T67 l1_5 x35_2).f2)] 67 (0, 0)) (by (with_reducible repeat (first | refine blk_drewN ?_ _ | refine blk_drew ?_ | refine blk_alloc ?_ _)); refine blk_put (cs := #[.int .i64 ((rd_T67 l1_5 x35_2).f0), .int .i64 ((rd_T67 l1_5 x35_2).f1), .int .i64 0]) ?_ 2 _ rfl; (with_reducible repeat (first | refine blk_drewN ?_ _ | refine blk_drew ?_ | refine blk_alloc ?_ _)); refine blk_put (cs := #[.int .i64 ((rd_T67 l1_5 x35_2).f0), .int .i64 0, .int .i64 0]) ?_ 1 _ rfl; (with_reducible repeat (first | refine blk_drewN ?_ _ | refine blk_drew ?_ | refine blk_alloc ?_ _)); refine blk_put (cs := #[.int .i64 0, .int .i64 0, .int .i64 0]) ?_ 0 _ rfl; (with_reducible repeat (first | refine blk_drewN ?_ _ | refine blk_drew ?_ | refine blk_alloc ?_ _)); exact BK375.out)) : gb375 ≠ gb379)); have n12_ := Aside0.mk ((by rw [hg]; exact Nat.ne_of_gt (blk_lt (g := gb375) (o := .cells #[.int .i64 ((rd_T67 l1_5 x35_2).f0), .int .i64 ((rd_T67 l1_5 x35_2).f1), .int .i64 ((rd_T67 l1_5 x35_2).f2)] 67 (0, 0)) (by (with_reducible repeat (first | refine blk_drewN ?_ _ | refine blk_drew ?_ | refine blk_alloc ?_ _)); refine blk_put (cs := #[.int .i64 ((rd_T67 l1_5 x35_2).f0), .int .i64 ((rd_T67 l1_5 x35_2).f1), .int .i64 0]) ?_ 2 _ rfl; (with_reducible repeat (first | refine blk_drewN ?_ _ | refine blk_drew ?_ | refine blk_alloc ?_ _)); refine blk_put (cs := #[.int .i64 ((rd_T67 l1_5 x35_2).f0), .int .i64 0, .int .i64 0]) ?_ 1 _ rfl; (with_reducible repeat (first | refine blk_drewN ?_ _ | refine blk_drew ?_ | refine blk_alloc ?_ _)); refine blk_put (cs := #[.int .i64 0, .int .i64 0, .int .i64 0]) ?_ 0 _ rfl; (with_reducible repeat (first | refine blk_drewN ?_ _ | refine blk_drew ?_ | refine blk_alloc ?_ _)); exact BK375.out)) : gb379 ≠ gb375)); clear BK372; clear BK373; clear BK375; clear HB; have BK372 := n0_; have BK373 := n1_; have BK375 := n2_; have HB := n3_; have BK379 := n4_; have GW379 := n5_; have GE379 := n6_; have NB372_379 := n7_; have NB379_372 := n8_; have NB373_379 := n9_; have NB379_373 := n10_; have NB375_379 := n11_; have NB379_375 := n12_; clear n0_ n1_ n2_ n3_ n4_ n5_ n6_ n7_ n8_ n9_ n10_ n11_ n12_; clear hb hbox hg; have hnb32 := NB379_372.out; have hnc32 := NB372_379.out; have hnb33 := NB379_373.out; have hnc33 := NB373_379.out; have hnb34 := NB379_375.out; have hnc34 := NB375_379.out; have hcz35_0 : w31.cell? ⟨gb379, 0, none⟩ = some (.int .i64 0) := (blk_cell BK379.out 0).trans rfl; have hcz35_1 : w31.cell? ⟨gb379, 1, none⟩ = some (.int .i64 0) := (blk_cell BK379.out 1).trans rfl; have hfz35_0 := blk_frozen BK379.out 0; have hfz35_1 := blk_frozen BK379.out 1; have hnb36 := NB372_373.out; have hnc36 := NB373_372.out; have hcz37_0 : w31.cell? ⟨gb372, 0, none⟩ = some (.slice A0_0 l0_0.length c0_0) := (blk_cell BK372.out 0).trans rfl; have hcz37_1 : w31.cell? ⟨gb372, 1, none⟩ = some (.slice A0_1 l0_1.length c0_1) := (blk_cell BK372.out 1).trans rfl; have hfz37_0 := blk_frozen BK372.out 0; have hfz37_1 := blk_frozen BK372.out 1; have hcz38_0 : w31.cell? ⟨gb373, 0, none⟩ = some (.int .i64 a1_0) := (blk_cell BK373.out 0).trans rfl; have hcz38_1 : w31.cell? ⟨gb373, 1, none⟩ = some (.int .i64 a1_1) := (blk_cell BK373.out 1).trans rfl; have hcz38_2 : w31.cell? ⟨gb373, 2, none⟩ = some (.slice A1_2 l1_2.length c1_2) := (blk_cell BK373.out 2).trans rfl; have hcz38_3 : w31.cell? ⟨gb373, 3, none⟩ = some (.int .i64 a1_3) := (blk_cell BK373.out 3).trans rfl; have hcz38_4 : w31.cell? ⟨gb373, 4, none⟩ = some (.int .i64 a1_4) := (blk_cell BK373.out 4).trans rfl; have hcz38_5 : w31.cell? ⟨gb373, 5, none⟩ = some (.slice (some ad374) l1_5.length c1_5) := (blk_cell BK373.out 5).trans rfl; have hcz38_6 : w31.cell? ⟨gb373, 6, none⟩ = some (.slice A1_6 l1_6.length c1_6) := (blk_cell BK373.out 6).trans rfl; have hcz38_7 : w31.cell? ⟨gb373, 7, none⟩ = some (.slice A1_7 l1_7.length c1_7) := (blk_cell BK373.out 7).trans rfl; have hfz38_0 := blk_frozen BK373.out 0; have hfz38_1 := blk_frozen BK373.out 1; have hfz38_2 := blk_frozen BK373.out 2; have hfz38_3 := blk_frozen BK373.out 3; have hfz38_4 := blk_frozen BK373.out 4; have hfz38_5 := blk_frozen BK373.out 5; have hfz38_6 := blk_frozen BK373.out 6; have hfz38_7 := blk_frozen BK373.out 7; have hcz39_0 : w31.cell? ⟨gb375, 0, none⟩ = some (.int .i64 ((rd_T67 l1_5 x35_2).f0)) := (blk_cell BK375.out 0).trans rfl; have hcz39_1 : w31.cell? ⟨gb375, 1, none⟩ = some (.int .i64 ((rd_T67 l1_5 x35_2).f1)) := (blk_cell BK375.out 1).trans rfl; have hcz39_2 : w31.cell? ⟨gb375, 2, none⟩ = some (.int .i64 ((rd_T67 l1_5 x35_2).f2)) := (blk_cell BK375.out 2).trans rfl; have hfz39_0 := blk_frozen BK375.out 0; have hfz39_1 := blk_frozen BK375.out 1; have hfz39_2 := blk_frozen BK375.out 2) | (go_at_call 44; (with_reducible refine (impl_operandOk.calls k2 _ _ l0_0 _ _ l0_1 a1_0 a1_1 _ _ l1_2 a1_3 a1_4 _ _ l1_5 _ _ l1_6 _ _ l1_7 ((rd_T67 l1_5 x35_2).f0) ((rd_T67 l1_5 x35_2).f1) ((rd_T67 l1_5 x35_2).f2) t376 ((rd_T67 l1_5 x35_2).f1) true _ ?side1 ?side2 ?side3 ?side4 ?side5 ?side6 ?side7 ?side8 ?side9 ?side10 ?side11 ?side12 A23.out).mono ?_); (case side1 => exact Kd.C_below HR0_0.out (by repeat (first | (with_reducible first | exact HB.out | apply below_alloc | apply pw_below_drewN | apply below_drew1 | refine below_set ?_ GE372.out | refine below_set ?_ GE373.out | refine below_set ?_ GE375.out | refine below_set ?_ GE379.out) | exact HB.out))); (case side2 => exact HC0_0.out); (case side3 => exact Kd.C_below HR0_1.out (by repeat (first | (with_reducible first | exact HB.out | apply below_alloc | apply pw_below_drewN | apply below_drew1 | refine below_set ?_ GE372.out | refine below_set ?_ GE373.out | refine below_set ?_ GE375.out | refine below_set ?_ GE379.out) | exact HB.out))); (case side4 => exact HC0_1.out); (case side5 => exact Kd.C_below HR1_2.out (by repeat (first | (with_reducible first | exact HB.out | apply below_alloc | apply pw_below_drewN | apply below_drew1 | refine below_set ?_ GE372.out | refine below_set ?_ GE373.out | refine below_set ?_ GE375.out | refine below_set ?_ GE379.out) | exact HB.out))); (case side6 => exact HC1_2.out); (case side7 => exact Kd.C_below HR1_5.out (by repeat (first | (with_reducible first | exact HB.out | apply below_alloc | apply pw_below_drewN | apply below_drew1 | refine below_set ?_ GE372.out | refine below_set ?_ GE373.out | refine below_set ?_ GE375.out | refine below_set ?_ GE379.out) | exact HB.out))); (case side8 => exact HC1_5.out); (case side9 => exact Kd.C_below HR1_6.out (by repeat (first | (with_reducible first | exact HB.out | apply below_alloc | apply pw_below_drewN | apply below_drew1 | refine below_set ?_ GE372.out | refine below_set ?_ GE373.out | refine below_set ?_ GE375.out | refine below_set ?_ GE379.out) | exact HB.out))); (case side10 => exact HC1_6.out); (case side11 => exact Kd.C_below HR1_7.out (by repeat (first | (with_reducible first | exact HB.out | apply below_alloc | apply pw_below_drewN | apply below_drew1 | refine below_set ?_ GE372.out | refine below_set ?_ GE373.out | refine below_set ?_ GE375.out | refine below_set ?_ GE379.out) | exact HB.out))); (case side12 => exact HC1_7.out); rintro e w40 ⟨rfl, hb⟩; have n0_ := Aside0.mk (blk_below (g := gb372) (o := .cells #[.slice A0_0 l0_0.length c0_0, .slice A0_1 l0_1.length c0_1] 31 (0, 0)) (by (with_reducible repeat (first | refine blk_drewN ?_ _ | refine blk_drew ?_ | refine blk_alloc ?_ _)); refine blk_far ?_ NB372_379.out _; (with_reducible repeat (first | refine blk_drewN ?_ _ | refine blk_drew ?_ | refine blk_alloc ?_ _)); refine blk_far ?_ NB372_379.out _; (with_reducible repeat (first | refine blk_drewN ?_ _ | refine blk_drew ?_ | refine blk_alloc ?_ _)); exact BK372.out) hb); have n1_ := Aside0.mk (blk_below (g := gb373) (o := .cells #[.int .i64 a1_0, .int .i64 a1_1, .slice A1_2 l1_2.length c1_2, .int .i64 a1_3, .int .i64 a1_4, .slice (some ad374) l1_5.length c1_5, .slice A1_6 l1_6.length c1_6, .slice A1_7 l1_7.length c1_7] 46 (0, 0)) (by (with_reducible repeat (first | refine blk_drewN ?_ _ | refine blk_drew ?_ | refine blk_alloc ?_ _)); refine blk_far ?_ NB373_379.out _; (with_reducible repeat (first | refine blk_drewN ?_ _ | refine blk_drew ?_ | refine blk_alloc ?_ _)); refine blk_far ?_ NB373_379.out _; (with_reducible repeat (first | refine blk_drewN ?_ _ | refine blk_drew ?_ | refine blk_alloc ?_ _)); exact BK373.out) hb); have n2_ := Aside0.mk (blk_below (g := gb375) (o := .cells #[.int .i64 ((rd_T67 l1_5 x35_2).f0), .int .i64 ((rd_T67 l1_5 x35_2).f1), .int .i64 ((rd_T67 l1_5 x35_2).f2)] 67 (0, 0)) (by (with_reducible repeat (first | refine blk_drewN ?_ _ | refine blk_drew ?_ | refine blk_alloc ?_ _)); refine blk_far ?_ NB375_379.out _; (with_reducible repeat (first | refine blk_drewN ?_ _ | refine blk_drew ?_ | refine blk_alloc ?_ _)); refine blk_far ?_ NB375_379.out _; (with_reducible repeat (first | refine blk_drewN ?_ _ | refine blk_drew ?_ | refine blk_alloc ?_ _)); exact BK375.out) hb); have n3_ := Aside0.mk (blk_below (g := gb379) (o := .cells #[.int .i64 t376, .int .i64 t377] 82 (0, 0)) (by (with_reducible repeat (first | refine blk_drewN ?_ _ | refine blk_drew ?_ | refine blk_alloc ?_ _)); refine blk_put (cs := #[.int .i64 t376, .int .i64 0]) ?_ 1 _ rfl; (with_reducible repeat (first | refine blk_drewN ?_ _ | refine blk_drew ?_ | refine blk_alloc ?_ _)); refine blk_put (cs := #[.int .i64 0, .int .i64 0]) ?_ 0 _ rfl; (with_reducible repeat (first | refine blk_drewN ?_ _ | refine blk_drew ?_ | refine blk_alloc ?_ _)); exact BK379.out) hb); have n4_ := Aside0.mk (below_step (by repeat (first | (with_reducible first | exact HB.out | apply below_alloc | apply pw_below_drewN | apply below_drew1 | refine below_set ?_ GE372.out | refine below_set ?_ GE373.out | refine below_set ?_ GE375.out | refine below_set ?_ GE379.out) | exact HB.out)) hb); clear BK372; clear BK373; clear BK375; clear BK379; clear HB; have BK372 := n0_; have BK373 := n1_; have BK375 := n2_; have BK379 := n3_; have HB := n4_; clear n0_ n1_ n2_ n3_ n4_; (try clear hb); (try clear hb2); (try clear hk); (try clear hi); have hcz41_0 : w40.cell? ⟨gb372, 0, none⟩ = some (.slice A0_0 l0_0.length c0_0) := (blk_cell BK372.out 0).trans rfl; have hcz41_1 : w40.cell? ⟨gb372, 1, none⟩ = some (.slice A0_1 l0_1.length c0_1) := (blk_cell BK372.out 1).trans rfl; have hfz41_0 := blk_frozen BK372.out 0; have hfz41_1 := blk_frozen BK372.out 1; have hcz42_0 : w40.cell? ⟨gb373, 0, none⟩ = some (.int .i64 a1_0) := (blk_cell BK373.out 0).trans rfl; have hcz42_1 : w40.cell? ⟨gb373, 1, none⟩ = some (.int .i64 a1_1) := (blk_cell BK373.out 1).trans rfl; have hcz42_2 : w40.cell? ⟨gb373, 2, none⟩ = some (.slice A1_2 l1_2.length c1_2) := (blk_cell BK373.out 2).trans rfl; have hcz42_3 : w40.cell? ⟨gb373, 3, none⟩ = some (.int .i64 a1_3) := (blk_cell BK373.out 3).trans rfl; have hcz42_4 : w40.cell? ⟨gb373, 4, none⟩ = some (.int .i64 a1_4) := (blk_cell BK373.out 4).trans rfl; have hcz42_5 : w40.cell? ⟨gb373, 5, none⟩ = some (.slice (some ad374) l1_5.length c1_5) := (blk_cell BK373.out 5).trans rfl; have hcz42_6 : w40.cell? ⟨gb373, 6, none⟩ = some (.slice A1_6 l1_6.length c1_6) := (blk_cell BK373.out 6).trans rfl; have hcz42_7 : w40.cell? ⟨gb373, 7, none⟩ = some (.slice A1_7 l1_7.length c1_7) := (blk_cell BK373.out 7).trans rfl; have hfz42_0 := blk_frozen BK373.out 0; have hfz42_1 := blk_frozen BK373.out 1; have hfz42_2 := blk_frozen BK373.out 2; have hfz42_3 := blk_frozen BK373.out 3; have hfz42_4 := blk_frozen BK373.out 4; have hfz42_5 := blk_frozen BK373.out 5; have hfz42_6 := blk_frozen BK373.out 6; have hfz42_7 := blk_frozen BK373.out 7; have hcz43_0 : w40.cell? ⟨gb375, 0, none⟩ = some (.int .i64 ((rd_T67 l1_5 x35_2).f0)) := (blk_cell BK375.out 0).trans rfl; have hcz43_1 : w40.cell? ⟨gb375, 1, none⟩ = some (.int .i64 ((rd_T67 l1_5 x35_2).f1)) := (blk_cell BK375.out 1).trans rfl; have hcz43_2 : w40.cell? ⟨gb375, 2, none⟩ = some (.int .i64 ((rd_T67 l1_5 x35_2).f2)) := (blk_cell BK375.out 2).trans rfl; have hfz43_0 := blk_frozen BK375.out 0; have hfz43_1 := blk_frozen BK375.out 1; have hfz43_2 := blk_frozen BK375.out 2; have hcz44_0 : w40.cell? ⟨gb379, 0, none⟩ = some (.int .i64 t376) := (blk_cell BK379.out 0).trans rfl; have hcz44_1 : w40.cell? ⟨gb379, 1, none⟩ = some (.int .i64 t377) := (blk_cell BK379.out 1).trans rfl; have hfz44_0 := blk_frozen BK379.out 0; have hfz44_1 := blk_frozen BK379.out 1) | (go_at_call 44; (with_reducible refine (impl_operandOk.calls k2 _ _ l0_0 _ _ l0_1 a1_0 a1_1 _ _ l1_2 a1_3 a1_4 _ _ l1_5 _ _ l1_6 _ _ l1_7 ((rd_T67 l1_5 x35_2).f0) ((rd_T67 l1_5 x35_2).f1) ((rd_T67 l1_5 x35_2).f2) t377 ((rd_T67 l1_5 x35_2).f2) true _ ?side1 ?side2 ?side3 ?side4 ?side5 ?side6 ?side7 ?side8 ?side9 ?side10 ?side11 ?side12 A25.out).mono ?_); (case side1 => repeat (first | exact (Kd.C_below HR0_0.out HB.out) | (with_reducible refine Kd.C_alloc ?_ _) | (with_reducible refine Kd.C_drewN ?_ _) | (with_reducible refine Kd.C_drew ?_))); (case side2 => exact HC0_0.out); (case side3 => repeat (first | exact (Kd.C_below HR0_1.out HB.out) | (with_reducible refine Kd.C_alloc ?_ _) | (with_reducible refine Kd.C_drewN ?_ _) | (with_reducible refine Kd.C_drew ?_))); (case side4 => exact HC0_1.out); (case side5 => repeat (first | exact (Kd.C_below HR1_2.out HB.out) | (with_reducible refine Kd.C_alloc ?_ _) | (with_reducible refine Kd.C_drewN ?_ _) | (with_reducible refine Kd.C_drew ?_))); (case side6 => exact HC1_2.out); (case side7 => repeat (first | exact (Kd.C_below HR1_5.out HB.out) | (with_reducible refine Kd.C_alloc ?_ _) | (with_reducible refine Kd.C_drewN ?_ _) | (with_reducible refine Kd.C_drew ?_))); (case side8 => exact HC1_5.out); (case side9 => repeat (first | exact (Kd.C_below HR1_6.out HB.out) | (with_reducible refine Kd.C_alloc ?_ _) | (with_reducible refine Kd.C_drewN ?_ _) | (with_reducible refine Kd.C_drew ?_))); (case side10 => exact HC1_6.out); (case side11 => repeat (first | exact (Kd.C_below HR1_7.out HB.out) | (with_reducible refine Kd.C_alloc ?_ _) | (with_reducible refine Kd.C_drewN ?_ _) | (with_reducible refine Kd.C_drew ?_))); (case side12 => exact HC1_7.out); rintro e w45 ⟨rfl, hb⟩; have n0_ := Aside0.mk (blk_below (g := gb372) (o := .cells #[.slice A0_0 l0_0.length c0_0, .slice A0_1 l0_1.length c0_1] 31 (0, 0)) (by (with_reducible repeat (first | refine blk_drewN ?_ _ | refine blk_drew ?_ | refine blk_alloc ?_ _)); exact BK372.out) hb); have n1_ := Aside0.mk (blk_below (g := gb373) (o := .cells #[.int .i64 a1_0, .int .i64 a1_1, .slice A1_2 l1_2.length c1_2, .int .i64 a1_3, .int .i64 a1_4, .slice (some ad374) l1_5.length c1_5, .slice A1_6 l1_6.length c1_6, .slice A1_7 l1_7.length c1_7] 46 (0, 0)) (by (with_reducible repeat (first | refine blk_drewN ?_ _ | refine blk_drew ?_ | refine blk_alloc ?_ _)); exact BK373.out) hb); have n2_ := Aside0.mk (blk_below (g := gb375) (o := .cells #[.int .i64 ((rd_T67 l1_5 x35_2).f0), .int .i64 ((rd_T67 l1_5 x35_2).f1), .int .i64 ((rd_T67 l1_5 x35_2).f2)] 67 (0, 0)) (by (with_reducible repeat (first | refine blk_drewN ?_ _ | refine blk_drew ?_ | refine blk_alloc ?_ _)); exact BK375.out) hb); have n3_ := Aside0.mk (blk_below (g := gb379) (o := .cells #[.int .i64 t376, .int .i64 t377] 82 (0, 0)) (by (with_reducible repeat (first | refine blk_drewN ?_ _ | refine blk_drew ?_ | refine blk_alloc ?_ _)); exact BK379.out) hb); have n4_ := Aside0.mk (below_step (by repeat (first | (with_reducible first | exact HB.out | apply below_alloc | apply pw_below_drewN | apply below_drew1 | refine below_set ?_ GE372.out | refine below_set ?_ GE373.out | refine below_set ?_ GE375.out | refine below_set ?_ GE379.out) | exact HB.out)) hb); clear BK372; clear BK373; clear BK375; clear BK379; clear HB; have BK372 := n0_; have BK373 := n1_; have BK375 := n2_; have BK379 := n3_; have HB := n4_; clear n0_ n1_ n2_ n3_ n4_; (try clear hb); (try clear hb2); (try clear hk); (try clear hi)))
                        go_roundg k2
                        case measure => have := HJ3.out; have := HK2.out; omega
                        case rel => exact ⟨(wrap64 (x35_2 + 1)), (by first | rfl | (simp; done) | (simp [*]; done)), H', ⟨by have := HJ3.out; have := HK2.out; omega⟩, ⟨by (with_reducible repeat (first | refine blk_drewN ?_ _ | refine blk_drew ?_ | refine blk_alloc ?_ _)); exact BK372.out⟩, ⟨by (with_reducible repeat (first | refine blk_drewN ?_ _ | refine blk_drew ?_ | refine blk_alloc ?_ _)); exact BK373.out⟩, ⟨by repeat (first | (with_reducible first | exact HB.out | apply below_alloc | apply pw_below_drewN | apply below_drew1 | refine below_set ?_ GE372.out | refine below_set ?_ GE373.out | refine below_set ?_ GE375.out | refine below_set ?_ GE379.out) | exact HB.out)⟩⟩
                      · replace c26 := Bool.eq_false_iff.mpr c26
                        subst c26
                        have H1 : (some false) = some r := by rw [if_neg (show ¬ (false = true) by decide)] at H; exact H
                        clear H
                        have H := H1
                        clear H1
                        obtain rfl := Option.some.inj H
                        simp only [Option.some.injEq, Prod.mk.injEq] at H
                        obtain ⟨rfl⟩ := H
                        have p374 : 0 ≤ (x35_2 : Int) := of_decide_eq_true (by first | (with_reducible assumption) | assumption)
                        have q374 : x35_2 < (l1_5.length : Int) := of_decide_eq_true (by first | (with_reducible assumption) | assumption)
                        obtain ⟨ad374, e374, hx374_0, hx374_1, hx374_2⟩ := at_T67 HR1_5.out x35_2 p374 q374
                        cases e374
                        replace hx374_0 := (HB.out.cell (World.block_lt_of_cell? w _ hx374_0)).trans hx374_0
                        replace hx374_1 := (HB.out.cell (World.block_lt_of_cell? w _ hx374_1)).trans hx374_1
                        replace hx374_2 := (HB.out.cell (World.block_lt_of_cell? w _ hx374_2)).trans hx374_2
                        replace p374 := eq_true p374
                        replace q374 := eq_true q374
                        go_wp2_with (first | ((with_reducible refine gate_dst (N := 8) rfl ?_); (try (refine gate_guard (by rfl) ?_; dsimp only)); refine box_event ?hg (N := 8) ?hd (cs := #[.int .i64 0, .int .i64 0, .int .i64 0]) (t := 67) ?hr ?_; (case hd => rfl); (case hg => rfl); (case hr => first | (go_simp; done) | (go_simp; rfl)); intro gb375 hg w46 hbox hb; have n0_ := Aside0.mk (blk_below (g := gb372) (o := .cells #[.slice A0_0 l0_0.length c0_0, .slice A0_1 l0_1.length c0_1] 31 (0, 0)) (by (with_reducible repeat (first | refine blk_drewN ?_ _ | refine blk_drew ?_ | refine blk_alloc ?_ _)); exact BK372.out) hb); have n1_ := Aside0.mk (blk_below (g := gb373) (o := .cells #[.int .i64 a1_0, .int .i64 a1_1, .slice A1_2 l1_2.length c1_2, .int .i64 a1_3, .int .i64 a1_4, .slice (some ad374) l1_5.length c1_5, .slice A1_6 l1_6.length c1_6, .slice A1_7 l1_7.length c1_7] 46 (0, 0)) (by (with_reducible repeat (first | refine blk_drewN ?_ _ | refine blk_drew ?_ | refine blk_alloc ?_ _)); exact BK373.out) hb); have n2_ := Aside0.mk (below_step (by repeat (first | (with_reducible first | exact HB.out | apply below_alloc | apply pw_below_drewN | apply below_drew1 | refine below_set ?_ GE372.out | refine below_set ?_ GE373.out) | exact HB.out)) hb); have n3_ := Aside0.mk (hbox); have n4_ := Aside0.mk ((by rw [hg]; exact (below_size (by repeat (first | (with_reducible first | exact HB.out | apply below_alloc | apply pw_below_drewN | apply below_drew1 | refine below_set ?_ GE372.out | refine below_set ?_ GE373.out) | exact HB.out))) : w.heap.size ≤ gb375)); have n5_ := Aside0.mk ((by rw [hg]; exact (below_size (by repeat (first | (with_reducible first | exact HB.out | apply below_alloc | apply pw_below_drewN | apply below_drew1 | refine below_set ?_ GE372.out | refine below_set ?_ GE373.out) | exact HB.out))) : w.heap.size ≤ gb375)); have n6_ := Aside0.mk ((by rw [hg]; exact Nat.ne_of_lt (blk_lt (g := gb372) (o := .cells #[.slice A0_0 l0_0.length c0_0, .slice A0_1 l0_1.length c0_1] 31 (0, 0)) (by (with_reducible repeat (first | refine blk_drewN ?_ _ | refine blk_drew ?_ | refine blk_alloc ?_ _)); exact BK372.out)) : gb372 ≠ gb375)); have n7_ := Aside0.mk ((by rw [hg]; exact Nat.ne_of_gt (blk_lt (g := gb372) (o := .cells #[.slice A0_0 l0_0.length c0_0, .slice A0_1 l0_1.length c0_1] 31 (0, 0)) (by (with_reducible repeat (first | refine blk_drewN ?_ _ | refine blk_drew ?_ | refine blk_alloc ?_ _)); exact BK372.out)) : gb375 ≠ gb372)); have n8_ := Aside0.mk ((by rw [hg]; exact Nat.ne_of_lt (blk_lt (g := gb373) (o := .cells #[.int .i64 a1_0, .int .i64 a1_1, .slice A1_2 l1_2.length c1_2, .int .i64 a1_3, .int .i64 a1_4, .slice (some ad374) l1_5.length c1_5, .slice A1_6 l1_6.length c1_6, .slice A1_7 l1_7.length c1_7] 46 (0, 0)) (by (with_reducible repeat (first | refine blk_drewN ?_ _ | refine blk_drew ?_ | refine blk_alloc ?_ _)); exact BK373.out)) : gb373 ≠ gb375)); have n9_ := Aside0.mk ((by rw [hg]; exact Nat.ne_of_gt (blk_lt (g := gb373) (o := .cells #[.int .i64 a1_0, .int .i64 a1_1, .slice A1_2 l1_2.length c1_2, .int .i64 a1_3, .int .i64 a1_4, .slice (some ad374) l1_5.length c1_5, .slice A1_6 l1_6.length c1_6, .slice A1_7 l1_7.length c1_7] 46 (0, 0)) (by (with_reducible repeat (first | refine blk_drewN ?_ _ | refine blk_drew ?_ | refine blk_alloc ?_ _)); exact BK373.out)) : gb375 ≠ gb373)); clear BK372; clear BK373; clear HB; have BK372 := n0_; have BK373 := n1_; have HB := n2_; have BK375 := n3_; have GW375 := n4_; have GE375 := n5_; have NB372_375 := n6_; have NB375_372 := n7_; have NB373_375 := n8_; have NB375_373 := n9_; clear n0_ n1_ n2_ n3_ n4_ n5_ n6_ n7_ n8_ n9_; clear hb hbox hg; have hnb47 := NB375_372.out; have hnc47 := NB372_375.out; have hnb48 := NB375_373.out; have hnc48 := NB373_375.out; have hcz49_0 : w46.cell? ⟨gb375, 0, none⟩ = some (.int .i64 0) := (blk_cell BK375.out 0).trans rfl; have hcz49_1 : w46.cell? ⟨gb375, 1, none⟩ = some (.int .i64 0) := (blk_cell BK375.out 1).trans rfl; have hcz49_2 : w46.cell? ⟨gb375, 2, none⟩ = some (.int .i64 0) := (blk_cell BK375.out 2).trans rfl; have hfz49_0 := blk_frozen BK375.out 0; have hfz49_1 := blk_frozen BK375.out 1; have hfz49_2 := blk_frozen BK375.out 2) | ((with_reducible refine gate_dst (N := 43) rfl ?_); refine want_event rfl rfl rfl rfl (blk_below HGM.out (by repeat (first | (with_reducible first | exact HB.out | apply below_alloc | apply pw_below_drewN | apply below_drew1 | refine below_set ?_ GE372.out | refine below_set ?_ GE373.out | refine below_set ?_ GE375.out) | exact HB.out))) A21.out ?_) | ((with_reducible refine gate_dst (N := 9) rfl ?_); (try (refine gate_guard (by rfl) ?_; dsimp only)); refine box_event ?hg (N := 9) ?hd (cs := #[.int .i64 0, .int .i64 0]) (t := 82) ?hr ?_; (case hd => rfl); (case hg => rfl); (case hr => first | (go_simp; done) | (go_simp; rfl)); intro gb379 hg w50 hbox hb; have n0_ := Aside0.mk (blk_below (g := gb372) (o := .cells #[.slice A0_0 l0_0.length c0_0, .slice A0_1 l0_1.length c0_1] 31 (0, 0)) (by (with_reducible repeat (first | refine blk_drewN ?_ _ | refine blk_drew ?_ | refine blk_alloc ?_ _)); refine blk_far ?_ NB372_375.out _; (with_reducible repeat (first | refine blk_drewN ?_ _ | refine blk_drew ?_ | refine blk_alloc ?_ _)); refine blk_far ?_ NB372_375.out _; (with_reducible repeat (first | refine blk_drewN ?_ _ | refine blk_drew ?_ | refine blk_alloc ?_ _)); refine blk_far ?_ NB372_375.out _; (with_reducible repeat (first | refine blk_drewN ?_ _ | refine blk_drew ?_ | refine blk_alloc ?_ _)); exact BK372.out) hb); have n1_ := Aside0.mk (blk_below (g := gb373) (o := .cells #[.int .i64 a1_0, .int .i64 a1_1, .slice A1_2 l1_2.length c1_2, .int .i64 a1_3, .int .i64 a1_4, .slice (some ad374) l1_5.length c1_5, .slice A1_6 l1_6.length c1_6, .slice A1_7 l1_7.length c1_7] 46 (0, 0)) (by (with_reducible repeat (first | refine blk_drewN ?_ _ | refine blk_drew ?_ | refine blk_alloc ?_ _)); refine blk_far ?_ NB373_375.out _; (with_reducible repeat (first | refine blk_drewN ?_ _ | refine blk_drew ?_ | refine blk_alloc ?_ _)); refine blk_far ?_ NB373_375.out _; (with_reducible repeat (first | refine blk_drewN ?_ _ | refine blk_drew ?_ | refine blk_alloc ?_ _)); refine blk_far ?_ NB373_375.out _; (with_reducible repeat (first | refine blk_drewN ?_ _ | refine blk_drew ?_ | refine blk_alloc ?_ _)); exact BK373.out) hb); have n2_ := Aside0.mk (blk_below (g := gb375) (o := .cells #[.int .i64 ((rd_T67 l1_5 x35_2).f0), .int .i64 ((rd_T67 l1_5 x35_2).f1), .int .i64 ((rd_T67 l1_5 x35_2).f2)] 67 (0, 0)) (by (with_reducible repeat (first | refine blk_drewN ?_ _ | refine blk_drew ?_ | refine blk_alloc ?_ _)); refine blk_put (cs := #[.int .i64 ((rd_T67 l1_5 x35_2).f0), .int .i64 ((rd_T67 l1_5 x35_2).f1), .int .i64 0]) ?_ 2 _ rfl; (with_reducible repeat (first | refine blk_drewN ?_ _ | refine blk_drew ?_ | refine blk_alloc ?_ _)); refine blk_put (cs := #[.int .i64 ((rd_T67 l1_5 x35_2).f0), .int .i64 0, .int .i64 0]) ?_ 1 _ rfl; (with_reducible repeat (first | refine blk_drewN ?_ _ | refine blk_drew ?_ | refine blk_alloc ?_ _)); refine blk_put (cs := #[.int .i64 0, .int .i64 0, .int .i64 0]) ?_ 0 _ rfl; (with_reducible repeat (first | refine blk_drewN ?_ _ | refine blk_drew ?_ | refine blk_alloc ?_ _)); exact BK375.out) hb); have n3_ := Aside0.mk (below_step (by repeat (first | (with_reducible first | exact HB.out | apply below_alloc | apply pw_below_drewN | apply below_drew1 | refine below_set ?_ GE372.out | refine below_set ?_ GE373.out | refine below_set ?_ GE375.out) | exact HB.out)) hb); have n4_ := Aside0.mk (hbox); have n5_ := Aside0.mk ((by rw [hg]; exact (below_size (by repeat (first | (with_reducible first | exact HB.out | apply below_alloc | apply pw_below_drewN | apply below_drew1 | refine below_set ?_ GE372.out | refine below_set ?_ GE373.out | refine below_set ?_ GE375.out) | exact HB.out))) : w.heap.size ≤ gb379)); have n6_ := Aside0.mk ((by rw [hg]; exact (below_size (by repeat (first | (with_reducible first | exact HB.out | apply below_alloc | apply pw_below_drewN | apply below_drew1 | refine below_set ?_ GE372.out | refine below_set ?_ GE373.out | refine below_set ?_ GE375.out) | exact HB.out))) : w.heap.size ≤ gb379)); have n7_ := Aside0.mk ((by rw [hg]; exact Nat.ne_of_lt (blk_lt (g := gb372) (o := .cells #[.slice A0_0 l0_0.length c0_0, .slice A0_1 l0_1.length c0_1] 31 (0, 0)) (by (with_reducible repeat (first | refine blk_drewN ?_ _ | refine blk_drew ?_ | refine blk_alloc ?_ _)); refine blk_far ?_ NB372_375.out _; (with_reducible repeat (first | refine blk_drewN ?_ _ | refine blk_drew ?_ | refine blk_alloc ?_ _)); refine blk_far ?_ NB372_375.out _; (with_reducible repeat (first | refine blk_drewN ?_ _ | refine blk_drew ?_ | refine blk_alloc ?_ _)); refine blk_far ?_ NB372_375.out _; (with_reducible repeat (first | refine blk_drewN ?_ _ | refine blk_drew ?_ | refine blk_alloc ?_ _)); exact BK372.out)) : gb372 ≠ gb379)); have n8_ := Aside0.mk ((by rw [hg]; exact Nat.ne_of_gt (blk_lt (g := gb372) (o := .cells #[.slice A0_0 l0_0.length c0_0, .slice A0_1 l0_1.length c0_1] 31 (0, 0)) (by (with_reducible repeat (first | refine blk_drewN ?_ _ | refine blk_drew ?_ | refine blk_alloc ?_ _)); refine blk_far ?_ NB372_375.out _; (with_reducible repeat (first | refine blk_drewN ?_ _ | refine blk_drew ?_ | refine blk_alloc ?_ _)); refine blk_far ?_ NB372_375.out _; (with_reducible repeat (first | refine blk_drewN ?_ _ | refine blk_drew ?_ | refine blk_alloc ?_ _)); refine blk_far ?_ NB372_375.out _; (with_reducible repeat (first | refine blk_drewN ?_ _ | refine blk_drew ?_ | refine blk_alloc ?_ _)); exact BK372.out)) : gb379 ≠ gb372)); have n9_ := Aside0.mk ((by rw [hg]; exact Nat.ne_of_lt (blk_lt (g := gb373) (o := .cells #[.int .i64 a1_0, .int .i64 a1_1, .slice A1_2 l1_2.length c1_2, .int .i64 a1_3, .int .i64 a1_4, .slice (some ad374) l1_5.length c1_5, .slice A1_6 l1_6.length c1_6, .slice A1_7 l1_7.length c1_7] 46 (0, 0)) (by (with_reducible repeat (first | refine blk_drewN ?_ _ | refine blk_drew ?_ | refine blk_alloc ?_ _)); refine blk_far ?_ NB373_375.out _; (with_reducible repeat (first | refine blk_drewN ?_ _ | refine blk_drew ?_ | refine blk_alloc ?_ _)); refine blk_far ?_ NB373_375.out _; (with_reducible repeat (first | refine blk_drewN ?_ _ | refine blk_drew ?_ | refine blk_alloc ?_ _)); refine blk_far ?_ NB373_375.out _; (with_reducible repeat (first | refine blk_drewN ?_ _ | refine blk_drew ?_ | refine blk_alloc ?_ _)); exact BK373.out)) : gb373 ≠ gb379)); have n10_ := Aside0.mk ((by rw [hg]; exact Nat.ne_of_gt (blk_lt (g := gb373) (o := .cells #[.int .i64 a1_0, .int .i64 a1_1, .slice A1_2 l1_2.length c1_2, .int .i64 a1_3, .int .i64 a1_4, .slice (some ad374) l1_5.length c1_5, .slice A1_6 l1_6.length c1_6, .slice A1_7 l1_7.length c1_7] 46 (0, 0)) (by (with_reducible repeat (first | refine blk_drewN ?_ _ | refine blk_drew ?_ | refine blk_alloc ?_ _)); refine blk_far ?_ NB373_375.out _; (with_reducible repeat (first | refine blk_drewN ?_ _ | refine blk_drew ?_ | refine blk_alloc ?_ _)); refine blk_far ?_ NB373_375.out _; (with_reducible repeat (first | refine blk_drewN ?_ _ | refine blk_drew ?_ | refine blk_alloc ?_ _)); refine blk_far ?_ NB373_375.out _; (with_reducible repeat (first | refine blk_drewN ?_ _ | refine blk_drew ?_ | refine blk_alloc ?_ _)); exact BK373.out)) : gb379 ≠ gb373)); have n11_ := Aside0.mk ((by rw [hg]; exact Nat.ne_of_lt (blk_lt (g := gb375) (o := .cells #[.int .i64 ((rd_T67 l1_5 x35_2).f0), .int .i64 ((rd_T67 l1_5 x35_2).f1), .int .i64 ((rd_T67 l1_5 x35_2).f2)] 67 (0, 0)) (by (with_reducible repeat (first | refine blk_drewN ?_ _ | refine blk_drew ?_ | refine blk_alloc ?_ _)); refine blk_put (cs := #[.int .i64 ((rd_T67 l1_5 x35_2).f0), .int .i64 ((rd_T67 l1_5 x35_2).f1), .int .i64 0]) ?_ 2 _ rfl; (with_reducible repeat (first | refine blk_drewN ?_ _ | refine blk_drew ?_ | refine blk_alloc ?_ _)); refine blk_put (cs := #[.int .i64 ((rd_T67 l1_5 x35_2).f0), .int .i64 0, .int .i64 0]) ?_ 1 _ rfl; (with_reducible repeat (first | refine blk_drewN ?_ _ | refine blk_drew ?_ | refine blk_alloc ?_ _)); refine blk_put (cs := #[.int .i64 0, .int .i64 0, .int .i64 0]) ?_ 0 _ rfl; (with_reducible repeat (first | refine blk_drewN ?_ _ | refine blk_drew ?_ | refine blk_alloc ?_ _)); exact BK375.out)) : gb375 ≠ gb379)); have n12_ := Aside0.mk ((by rw [hg]; exact Nat.ne_of_gt (blk_lt (g := gb375) (o := .cells #[.int .i64 ((rd_T67 l1_5 x35_2).f0), .int .i64 ((rd_T67 l1_5 x35_2).f1), .int .i64 ((rd_T67 l1_5 x35_2).f2)] 67 (0, 0)) (by (with_reducible repeat (first | refine blk_drewN ?_ _ | refine blk_drew ?_ | refine blk_alloc ?_ _)); refine blk_put (cs := #[.int .i64 ((rd_T67 l1_5 x35_2).f0), .int .i64 ((rd_T67 l1_5 x35_2).f1), .int .i64 0]) ?_ 2 _ rfl; (with_reducible repeat (first | refine blk_drewN ?_ _ | refine blk_drew ?_ | refine blk_alloc ?_ _)); refine blk_put (cs := #[.int .i64 ((rd_T67 l1_5 x35_2).f0), .int .i64 0, .int .i64 0]) ?_ 1 _ rfl; (with_reducible repeat (first | refine blk_drewN ?_ _ | refine blk_drew ?_ | refine blk_alloc ?_ _)); refine blk_put (cs := #[.int .i64 0, .int .i64 0, .int .i64 0]) ?_ 0 _ rfl; (with_reducible repeat (first | refine blk_drewN ?_ _ | refine blk_drew ?_ | refine blk_alloc ?_ _)); exact BK375.out)) : gb379 ≠ gb375)); clear BK372; clear BK373; clear BK375; clear HB; have BK372 := n0_; have BK373 := n1_; have BK375 := n2_; have HB := n3_; have BK379 := n4_; have GW379 := n5_; have GE379 := n6_; have NB372_379 := n7_; have NB379_372 := n8_; have NB373_379 := n9_; have NB379_373 := n10_; have NB375_379 := n11_; have NB379_375 := n12_; clear n0_ n1_ n2_ n3_ n4_ n5_ n6_ n7_ n8_ n9_ n10_ n11_ n12_; clear hb hbox hg; have hnb51 := NB379_372.out; have hnc51 := NB372_379.out; have hnb52 := NB379_373.out; have hnc52 := NB373_379.out; have hnb53 := NB379_375.out; have hnc53 := NB375_379.out; have hcz54_0 : w50.cell? ⟨gb379, 0, none⟩ = some (.int .i64 0) := (blk_cell BK379.out 0).trans rfl; have hcz54_1 : w50.cell? ⟨gb379, 1, none⟩ = some (.int .i64 0) := (blk_cell BK379.out 1).trans rfl; have hfz54_0 := blk_frozen BK379.out 0; have hfz54_1 := blk_frozen BK379.out 1; have hnb55 := NB372_373.out; have hnc55 := NB373_372.out; have hcz56_0 : w50.cell? ⟨gb372, 0, none⟩ = some (.slice A0_0 l0_0.length c0_0) := (blk_cell BK372.out 0).trans rfl; have hcz56_1 : w50.cell? ⟨gb372, 1, none⟩ = some (.slice A0_1 l0_1.length c0_1) := (blk_cell BK372.out 1).trans rfl; have hfz56_0 := blk_frozen BK372.out 0; have hfz56_1 := blk_frozen BK372.out 1; have hcz57_0 : w50.cell? ⟨gb373, 0, none⟩ = some (.int .i64 a1_0) := (blk_cell BK373.out 0).trans rfl; have hcz57_1 : w50.cell? ⟨gb373, 1, none⟩ = some (.int .i64 a1_1) := (blk_cell BK373.out 1).trans rfl; have hcz57_2 : w50.cell? ⟨gb373, 2, none⟩ = some (.slice A1_2 l1_2.length c1_2) := (blk_cell BK373.out 2).trans rfl; have hcz57_3 : w50.cell? ⟨gb373, 3, none⟩ = some (.int .i64 a1_3) := (blk_cell BK373.out 3).trans rfl; have hcz57_4 : w50.cell? ⟨gb373, 4, none⟩ = some (.int .i64 a1_4) := (blk_cell BK373.out 4).trans rfl; have hcz57_5 : w50.cell? ⟨gb373, 5, none⟩ = some (.slice (some ad374) l1_5.length c1_5) := (blk_cell BK373.out 5).trans rfl; have hcz57_6 : w50.cell? ⟨gb373, 6, none⟩ = some (.slice A1_6 l1_6.length c1_6) := (blk_cell BK373.out 6).trans rfl; have hcz57_7 : w50.cell? ⟨gb373, 7, none⟩ = some (.slice A1_7 l1_7.length c1_7) := (blk_cell BK373.out 7).trans rfl; have hfz57_0 := blk_frozen BK373.out 0; have hfz57_1 := blk_frozen BK373.out 1; have hfz57_2 := blk_frozen BK373.out 2; have hfz57_3 := blk_frozen BK373.out 3; have hfz57_4 := blk_frozen BK373.out 4; have hfz57_5 := blk_frozen BK373.out 5; have hfz57_6 := blk_frozen BK373.out 6; have hfz57_7 := blk_frozen BK373.out 7; have hcz58_0 : w50.cell? ⟨gb375, 0, none⟩ = some (.int .i64 ((rd_T67 l1_5 x35_2).f0)) := (blk_cell BK375.out 0).trans rfl; have hcz58_1 : w50.cell? ⟨gb375, 1, none⟩ = some (.int .i64 ((rd_T67 l1_5 x35_2).f1)) := (blk_cell BK375.out 1).trans rfl; have hcz58_2 : w50.cell? ⟨gb375, 2, none⟩ = some (.int .i64 ((rd_T67 l1_5 x35_2).f2)) := (blk_cell BK375.out 2).trans rfl; have hfz58_0 := blk_frozen BK375.out 0; have hfz58_1 := blk_frozen BK375.out 1; have hfz58_2 := blk_frozen BK375.out 2) | (go_at_call 44; (with_reducible refine (impl_operandOk.calls k2 _ _ l0_0 _ _ l0_1 a1_0 a1_1 _ _ l1_2 a1_3 a1_4 _ _ l1_5 _ _ l1_6 _ _ l1_7 ((rd_T67 l1_5 x35_2).f0) ((rd_T67 l1_5 x35_2).f1) ((rd_T67 l1_5 x35_2).f2) t376 ((rd_T67 l1_5 x35_2).f1) true _ ?side1 ?side2 ?side3 ?side4 ?side5 ?side6 ?side7 ?side8 ?side9 ?side10 ?side11 ?side12 A23.out).mono ?_); (case side1 => exact Kd.C_below HR0_0.out (by repeat (first | (with_reducible first | exact HB.out | apply below_alloc | apply pw_below_drewN | apply below_drew1 | refine below_set ?_ GE372.out | refine below_set ?_ GE373.out | refine below_set ?_ GE375.out | refine below_set ?_ GE379.out) | exact HB.out))); (case side2 => exact HC0_0.out); (case side3 => exact Kd.C_below HR0_1.out (by repeat (first | (with_reducible first | exact HB.out | apply below_alloc | apply pw_below_drewN | apply below_drew1 | refine below_set ?_ GE372.out | refine below_set ?_ GE373.out | refine below_set ?_ GE375.out | refine below_set ?_ GE379.out) | exact HB.out))); (case side4 => exact HC0_1.out); (case side5 => exact Kd.C_below HR1_2.out (by repeat (first | (with_reducible first | exact HB.out | apply below_alloc | apply pw_below_drewN | apply below_drew1 | refine below_set ?_ GE372.out | refine below_set ?_ GE373.out | refine below_set ?_ GE375.out | refine below_set ?_ GE379.out) | exact HB.out))); (case side6 => exact HC1_2.out); (case side7 => exact Kd.C_below HR1_5.out (by repeat (first | (with_reducible first | exact HB.out | apply below_alloc | apply pw_below_drewN | apply below_drew1 | refine below_set ?_ GE372.out | refine below_set ?_ GE373.out | refine below_set ?_ GE375.out | refine below_set ?_ GE379.out) | exact HB.out))); (case side8 => exact HC1_5.out); (case side9 => exact Kd.C_below HR1_6.out (by repeat (first | (with_reducible first | exact HB.out | apply below_alloc | apply pw_below_drewN | apply below_drew1 | refine below_set ?_ GE372.out | refine below_set ?_ GE373.out | refine below_set ?_ GE375.out | refine below_set ?_ GE379.out) | exact HB.out))); (case side10 => exact HC1_6.out); (case side11 => exact Kd.C_below HR1_7.out (by repeat (first | (with_reducible first | exact HB.out | apply below_alloc | apply pw_below_drewN | apply below_drew1 | refine below_set ?_ GE372.out | refine below_set ?_ GE373.out | refine below_set ?_ GE375.out | refine below_set ?_ GE379.out) | exact HB.out))); (case side12 => exact HC1_7.out); rintro e w59 ⟨rfl, hb⟩; have n0_ := Aside0.mk (blk_below (g := gb372) (o := .cells #[.slice A0_0 l0_0.length c0_0, .slice A0_1 l0_1.length c0_1] 31 (0, 0)) (by (with_reducible repeat (first | refine blk_drewN ?_ _ | refine blk_drew ?_ | refine blk_alloc ?_ _)); refine blk_far ?_ NB372_379.out _; (with_reducible repeat (first | refine blk_drewN ?_ _ | refine blk_drew ?_ | refine blk_alloc ?_ _)); refine blk_far ?_ NB372_379.out _; (with_reducible repeat (first | refine blk_drewN ?_ _ | refine blk_drew ?_ | refine blk_alloc ?_ _)); exact BK372.out) hb); have n1_ := Aside0.mk (blk_below (g := gb373) (o := .cells #[.int .i64 a1_0, .int .i64 a1_1, .slice A1_2 l1_2.length c1_2, .int .i64 a1_3, .int .i64 a1_4, .slice (some ad374) l1_5.length c1_5, .slice A1_6 l1_6.length c1_6, .slice A1_7 l1_7.length c1_7] 46 (0, 0)) (by (with_reducible repeat (first | refine blk_drewN ?_ _ | refine blk_drew ?_ | refine blk_alloc ?_ _)); refine blk_far ?_ NB373_379.out _; (with_reducible repeat (first | refine blk_drewN ?_ _ | refine blk_drew ?_ | refine blk_alloc ?_ _)); refine blk_far ?_ NB373_379.out _; (with_reducible repeat (first | refine blk_drewN ?_ _ | refine blk_drew ?_ | refine blk_alloc ?_ _)); exact BK373.out) hb); have n2_ := Aside0.mk (blk_below (g := gb375) (o := .cells #[.int .i64 ((rd_T67 l1_5 x35_2).f0), .int .i64 ((rd_T67 l1_5 x35_2).f1), .int .i64 ((rd_T67 l1_5 x35_2).f2)] 67 (0, 0)) (by (with_reducible repeat (first | refine blk_drewN ?_ _ | refine blk_drew ?_ | refine blk_alloc ?_ _)); refine blk_far ?_ NB375_379.out _; (with_reducible repeat (first | refine blk_drewN ?_ _ | refine blk_drew ?_ | refine blk_alloc ?_ _)); refine blk_far ?_ NB375_379.out _; (with_reducible repeat (first | refine blk_drewN ?_ _ | refine blk_drew ?_ | refine blk_alloc ?_ _)); exact BK375.out) hb); have n3_ := Aside0.mk (blk_below (g := gb379) (o := .cells #[.int .i64 t376, .int .i64 t377] 82 (0, 0)) (by (with_reducible repeat (first | refine blk_drewN ?_ _ | refine blk_drew ?_ | refine blk_alloc ?_ _)); refine blk_put (cs := #[.int .i64 t376, .int .i64 0]) ?_ 1 _ rfl; (with_reducible repeat (first | refine blk_drewN ?_ _ | refine blk_drew ?_ | refine blk_alloc ?_ _)); refine blk_put (cs := #[.int .i64 0, .int .i64 0]) ?_ 0 _ rfl; (with_reducible repeat (first | refine blk_drewN ?_ _ | refine blk_drew ?_ | refine blk_alloc ?_ _)); exact BK379.out) hb); have n4_ := Aside0.mk (below_step (by repeat (first | (with_reducible first | exact HB.out | apply below_alloc | apply pw_below_drewN | apply below_drew1 | refine below_set ?_ GE372.out | refine below_set ?_ GE373.out | refine below_set ?_ GE375.out | refine below_set ?_ GE379.out) | exact HB.out)) hb); clear BK372; clear BK373; clear BK375; clear BK379; clear HB; have BK372 := n0_; have BK373 := n1_; have BK375 := n2_; have BK379 := n3_; have HB := n4_; clear n0_ n1_ n2_ n3_ n4_; (try clear hb); (try clear hb2); (try clear hk); (try clear hi); have hcz60_0 : w59.cell? ⟨gb372, 0, none⟩ = some (.slice A0_0 l0_0.length c0_0) := (blk_cell BK372.out 0).trans rfl; have hcz60_1 : w59.cell? ⟨gb372, 1, none⟩ = some (.slice A0_1 l0_1.length c0_1) := (blk_cell BK372.out 1).trans rfl; have hfz60_0 := blk_frozen BK372.out 0; have hfz60_1 := blk_frozen BK372.out 1; have hcz61_0 : w59.cell? ⟨gb373, 0, none⟩ = some (.int .i64 a1_0) := (blk_cell BK373.out 0).trans rfl; have hcz61_1 : w59.cell? ⟨gb373, 1, none⟩ = some (.int .i64 a1_1) := (blk_cell BK373.out 1).trans rfl; have hcz61_2 : w59.cell? ⟨gb373, 2, none⟩ = some (.slice A1_2 l1_2.length c1_2) := (blk_cell BK373.out 2).trans rfl; have hcz61_3 : w59.cell? ⟨gb373, 3, none⟩ = some (.int .i64 a1_3) := (blk_cell BK373.out 3).trans rfl; have hcz61_4 : w59.cell? ⟨gb373, 4, none⟩ = some (.int .i64 a1_4) := (blk_cell BK373.out 4).trans rfl; have hcz61_5 : w59.cell? ⟨gb373, 5, none⟩ = some (.slice (some ad374) l1_5.length c1_5) := (blk_cell BK373.out 5).trans rfl; have hcz61_6 : w59.cell? ⟨gb373, 6, none⟩ = some (.slice A1_6 l1_6.length c1_6) := (blk_cell BK373.out 6).trans rfl; have hcz61_7 : w59.cell? ⟨gb373, 7, none⟩ = some (.slice A1_7 l1_7.length c1_7) := (blk_cell BK373.out 7).trans rfl; have hfz61_0 := blk_frozen BK373.out 0; have hfz61_1 := blk_frozen BK373.out 1; have hfz61_2 := blk_frozen BK373.out 2; have hfz61_3 := blk_frozen BK373.out 3; have hfz61_4 := blk_frozen BK373.out 4; have hfz61_5 := blk_frozen BK373.out 5; have hfz61_6 := blk_frozen BK373.out 6; have hfz61_7 := blk_frozen BK373.out 7; have hcz62_0 : w59.cell? ⟨gb375, 0, none⟩ = some (.int .i64 ((rd_T67 l1_5 x35_2).f0)) := (blk_cell BK375.out 0).trans rfl; have hcz62_1 : w59.cell? ⟨gb375, 1, none⟩ = some (.int .i64 ((rd_T67 l1_5 x35_2).f1)) := (blk_cell BK375.out 1).trans rfl; have hcz62_2 : w59.cell? ⟨gb375, 2, none⟩ = some (.int .i64 ((rd_T67 l1_5 x35_2).f2)) := (blk_cell BK375.out 2).trans rfl; have hfz62_0 := blk_frozen BK375.out 0; have hfz62_1 := blk_frozen BK375.out 1; have hfz62_2 := blk_frozen BK375.out 2; have hcz63_0 : w59.cell? ⟨gb379, 0, none⟩ = some (.int .i64 t376) := (blk_cell BK379.out 0).trans rfl; have hcz63_1 : w59.cell? ⟨gb379, 1, none⟩ = some (.int .i64 t377) := (blk_cell BK379.out 1).trans rfl; have hfz63_0 := blk_frozen BK379.out 0; have hfz63_1 := blk_frozen BK379.out 1) | (go_at_call 44; (with_reducible refine (impl_operandOk.calls k2 _ _ l0_0 _ _ l0_1 a1_0 a1_1 _ _ l1_2 a1_3 a1_4 _ _ l1_5 _ _ l1_6 _ _ l1_7 ((rd_T67 l1_5 x35_2).f0) ((rd_T67 l1_5 x35_2).f1) ((rd_T67 l1_5 x35_2).f2) t377 ((rd_T67 l1_5 x35_2).f2) false _ ?side1 ?side2 ?side3 ?side4 ?side5 ?side6 ?side7 ?side8 ?side9 ?side10 ?side11 ?side12 A25.out).mono ?_); (case side1 => repeat (first | exact (Kd.C_below HR0_0.out HB.out) | (with_reducible refine Kd.C_alloc ?_ _) | (with_reducible refine Kd.C_drewN ?_ _) | (with_reducible refine Kd.C_drew ?_))); (case side2 => exact HC0_0.out); (case side3 => repeat (first | exact (Kd.C_below HR0_1.out HB.out) | (with_reducible refine Kd.C_alloc ?_ _) | (with_reducible refine Kd.C_drewN ?_ _) | (with_reducible refine Kd.C_drew ?_))); (case side4 => exact HC0_1.out); (case side5 => repeat (first | exact (Kd.C_below HR1_2.out HB.out) | (with_reducible refine Kd.C_alloc ?_ _) | (with_reducible refine Kd.C_drewN ?_ _) | (with_reducible refine Kd.C_drew ?_))); (case side6 => exact HC1_2.out); (case side7 => repeat (first | exact (Kd.C_below HR1_5.out HB.out) | (with_reducible refine Kd.C_alloc ?_ _) | (with_reducible refine Kd.C_drewN ?_ _) | (with_reducible refine Kd.C_drew ?_))); (case side8 => exact HC1_5.out); (case side9 => repeat (first | exact (Kd.C_below HR1_6.out HB.out) | (with_reducible refine Kd.C_alloc ?_ _) | (with_reducible refine Kd.C_drewN ?_ _) | (with_reducible refine Kd.C_drew ?_))); (case side10 => exact HC1_6.out); (case side11 => repeat (first | exact (Kd.C_below HR1_7.out HB.out) | (with_reducible refine Kd.C_alloc ?_ _) | (with_reducible refine Kd.C_drewN ?_ _) | (with_reducible refine Kd.C_drew ?_))); (case side12 => exact HC1_7.out); rintro e w64 ⟨rfl, hb⟩; have n0_ := Aside0.mk (blk_below (g := gb372) (o := .cells #[.slice A0_0 l0_0.length c0_0, .slice A0_1 l0_1.length c0_1] 31 (0, 0)) (by (with_reducible repeat (first | refine blk_drewN ?_ _ | refine blk_drew ?_ | refine blk_alloc ?_ _)); exact BK372.out) hb); have n1_ := Aside0.mk (blk_below (g := gb373) (o := .cells #[.int .i64 a1_0, .int .i64 a1_1, .slice A1_2 l1_2.length c1_2, .int .i64 a1_3, .int .i64 a1_4, .slice (some ad374) l1_5.length c1_5, .slice A1_6 l1_6.length c1_6, .slice A1_7 l1_7.length c1_7] 46 (0, 0)) (by (with_reducible repeat (first | refine blk_drewN ?_ _ | refine blk_drew ?_ | refine blk_alloc ?_ _)); exact BK373.out) hb); have n2_ := Aside0.mk (blk_below (g := gb375) (o := .cells #[.int .i64 ((rd_T67 l1_5 x35_2).f0), .int .i64 ((rd_T67 l1_5 x35_2).f1), .int .i64 ((rd_T67 l1_5 x35_2).f2)] 67 (0, 0)) (by (with_reducible repeat (first | refine blk_drewN ?_ _ | refine blk_drew ?_ | refine blk_alloc ?_ _)); exact BK375.out) hb); have n3_ := Aside0.mk (blk_below (g := gb379) (o := .cells #[.int .i64 t376, .int .i64 t377] 82 (0, 0)) (by (with_reducible repeat (first | refine blk_drewN ?_ _ | refine blk_drew ?_ | refine blk_alloc ?_ _)); exact BK379.out) hb); have n4_ := Aside0.mk (below_step (by repeat (first | (with_reducible first | exact HB.out | apply below_alloc | apply pw_below_drewN | apply below_drew1 | refine below_set ?_ GE372.out | refine below_set ?_ GE373.out | refine below_set ?_ GE375.out | refine below_set ?_ GE379.out) | exact HB.out)) hb); clear BK372; clear BK373; clear BK375; clear BK379; clear HB; have BK372 := n0_; have BK373 := n1_; have BK375 := n2_; have BK379 := n3_; have HB := n4_; clear n0_ n1_ n2_ n3_ n4_; (try clear hb); (try clear hb2); (try clear hk); (try clear hi)))
                        go_ret
                        exact ⟨by first | rfl | (simp [errW_none, errW_some] <;> rfl) | (simp [*, errW_none, errW_some] <;> rfl), by repeat (first | (with_reducible first | exact HB.out | apply below_alloc | apply pw_below_drewN | apply below_drew1 | refine below_set ?_ GE372.out | refine below_set ?_ GE373.out | refine below_set ?_ GE375.out | refine below_set ?_ GE379.out) | exact HB.out)⟩
                    · replace c24 := Bool.eq_false_iff.mpr c24
                      subst c24
                      have H1 : (some false) = some r := by rw [if_neg (show ¬ (false = true) by decide)] at H; exact H
                      clear H
                      have H := H1
                      clear H1
                      obtain rfl := Option.some.inj H
                      simp only [Option.some.injEq, Prod.mk.injEq] at H
                      obtain ⟨rfl⟩ := H
                      have p374 : 0 ≤ (x35_2 : Int) := of_decide_eq_true (by first | (with_reducible assumption) | assumption)
                      have q374 : x35_2 < (l1_5.length : Int) := of_decide_eq_true (by first | (with_reducible assumption) | assumption)
                      obtain ⟨ad374, e374, hx374_0, hx374_1, hx374_2⟩ := at_T67 HR1_5.out x35_2 p374 q374
                      cases e374
                      replace hx374_0 := (HB.out.cell (World.block_lt_of_cell? w _ hx374_0)).trans hx374_0
                      replace hx374_1 := (HB.out.cell (World.block_lt_of_cell? w _ hx374_1)).trans hx374_1
                      replace hx374_2 := (HB.out.cell (World.block_lt_of_cell? w _ hx374_2)).trans hx374_2
                      replace p374 := eq_true p374
                      replace q374 := eq_true q374
                      go_wp2_with (first | ((with_reducible refine gate_dst (N := 8) rfl ?_); (try (refine gate_guard (by rfl) ?_; dsimp only)); refine box_event ?hg (N := 8) ?hd (cs := #[.int .i64 0, .int .i64 0, .int .i64 0]) (t := 67) ?hr ?_; (case hd => rfl); (case hg => rfl); (case hr => first | (go_simp; done) | (go_simp; rfl)); intro gb375 hg w65 hbox hb; have n0_ := Aside0.mk (blk_below (g := gb372) (o := .cells #[.slice A0_0 l0_0.length c0_0, .slice A0_1 l0_1.length c0_1] 31 (0, 0)) (by (with_reducible repeat (first | refine blk_drewN ?_ _ | refine blk_drew ?_ | refine blk_alloc ?_ _)); exact BK372.out) hb); have n1_ := Aside0.mk (blk_below (g := gb373) (o := .cells #[.int .i64 a1_0, .int .i64 a1_1, .slice A1_2 l1_2.length c1_2, .int .i64 a1_3, .int .i64 a1_4, .slice (some ad374) l1_5.length c1_5, .slice A1_6 l1_6.length c1_6, .slice A1_7 l1_7.length c1_7] 46 (0, 0)) (by (with_reducible repeat (first | refine blk_drewN ?_ _ | refine blk_drew ?_ | refine blk_alloc ?_ _)); exact BK373.out) hb); have n2_ := Aside0.mk (below_step (by repeat (first | (with_reducible first | exact HB.out | apply below_alloc | apply pw_below_drewN | apply below_drew1 | refine below_set ?_ GE372.out | refine below_set ?_ GE373.out) | exact HB.out)) hb); have n3_ := Aside0.mk (hbox); have n4_ := Aside0.mk ((by rw [hg]; exact (below_size (by repeat (first | (with_reducible first | exact HB.out | apply below_alloc | apply pw_below_drewN | apply below_drew1 | refine below_set ?_ GE372.out | refine below_set ?_ GE373.out) | exact HB.out))) : w.heap.size ≤ gb375)); have n5_ := Aside0.mk ((by rw [hg]; exact (below_size (by repeat (first | (with_reducible first | exact HB.out | apply below_alloc | apply pw_below_drewN | apply below_drew1 | refine below_set ?_ GE372.out | refine below_set ?_ GE373.out) | exact HB.out))) : w.heap.size ≤ gb375)); have n6_ := Aside0.mk ((by rw [hg]; exact Nat.ne_of_lt (blk_lt (g := gb372) (o := .cells #[.slice A0_0 l0_0.length c0_0, .slice A0_1 l0_1.length c0_1] 31 (0, 0)) (by (with_reducible repeat (first | refine blk_drewN ?_ _ | refine blk_drew ?_ | refine blk_alloc ?_ _)); exact BK372.out)) : gb372 ≠ gb375)); have n7_ := Aside0.mk ((by rw [hg]; exact Nat.ne_of_gt (blk_lt (g := gb372) (o := .cells #[.slice A0_0 l0_0.length c0_0, .slice A0_1 l0_1.length c0_1] 31 (0, 0)) (by (with_reducible repeat (first | refine blk_drewN ?_ _ | refine blk_drew ?_ | refine blk_alloc ?_ _)); exact BK372.out)) : gb375 ≠ gb372)); have n8_ := Aside0.mk ((by rw [hg]; exact Nat.ne_of_lt (blk_lt (g := gb373) (o := .cells #[.int .i64 a1_0, .int .i64 a1_1, .slice A1_2 l1_2.length c1_2, .int .i64 a1_3, .int .i64 a1_4, .slice (some ad374) l1_5.length c1_5, .slice A1_6 l1_6.length c1_6, .slice A1_7 l1_7.length c1_7] 46 (0, 0)) (by (with_reducible repeat (first | refine blk_drewN ?_ _ | refine blk_drew ?_ | refine blk_alloc ?_ _)); exact BK373.out)) : gb373 ≠ gb375)); have n9_ := Aside0.mk ((by rw [hg]; exact Nat.ne_of_gt (blk_lt (g := gb373) (o := .cells #[.int .i64 a1_0, .int .i64 a1_1, .slice A1_2 l1_2.length c1_2, .int .i64 a1_3, .int .i64 a1_4, .slice (some ad374) l1_5.length c1_5, .slice A1_6 l1_6.length c1_6, .slice A1_7 l1_7.length c1_7] 46 (0, 0)) (by (with_reducible repeat (first | refine blk_drewN ?_ _ | refine blk_drew ?_ | refine blk_alloc ?_ _)); exact BK373.out)) : gb375 ≠ gb373)); clear BK372; clear BK373; clear HB; have BK372 := n0_; have BK373 := n1_; have HB := n2_; have BK375 := n3_; have GW375 := n4_; have GE375 := n5_; have NB372_375 := n6_; have NB375_372 := n7_; have NB373_375 := n8_; have NB375_373 := n9_; clear n0_ n1_ n2_ n3_ n4_ n5_ n6_ n7_ n8_ n9_; clear hb hbox hg; have hnb66 := NB375_372.out; have hnc66 := NB372_375.out; have hnb67 := NB375_373.out; have hnc67 := NB373_375.out; have hcz68_0 : w65.cell? ⟨gb375, 0, none⟩ = some (.int .i64 0) := (blk_cell BK375.out 0).trans rfl; have hcz68_1 : w65.cell? ⟨gb375, 1, none⟩ = some (.int .i64 0) := (blk_cell BK375.out 1).trans rfl; have hcz68_2 : w65.cell? ⟨gb375, 2, none⟩ = some (.int .i64 0) := (blk_cell BK375.out 2).trans rfl; have hfz68_0 := blk_frozen BK375.out 0; have hfz68_1 := blk_frozen BK375.out 1; have hfz68_2 := blk_frozen BK375.out 2) | ((with_reducible refine gate_dst (N := 43) rfl ?_); refine want_event rfl rfl rfl rfl (blk_below HGM.out (by repeat (first | (with_reducible first | exact HB.out | apply below_alloc | apply pw_below_drewN | apply below_drew1 | refine below_set ?_ GE372.out | refine below_set ?_ GE373.out | refine below_set ?_ GE375.out) | exact HB.out))) A21.out ?_) | ((with_reducible refine gate_dst (N := 9) rfl ?_); (try (refine gate_guard (by rfl) ?_; dsimp only)); refine box_event ?hg (N := 9) ?hd (cs := #[.int .i64 0, .int .i64 0]) (t := 82) ?hr ?_; (case hd => rfl); (case hg => rfl); (case hr => first | (go_simp; done) | (go_simp; rfl)); intro gb379 hg w69 hbox hb; have n0_ := Aside0.mk (blk_below (g := gb372) (o := .cells #[.slice A0_0 l0_0.length c0_0, .slice A0_1 l0_1.length c0_1] 31 (0, 0)) (by (with_reducible repeat (first | refine blk_drewN ?_ _ | refine blk_drew ?_ | refine blk_alloc ?_ _)); refine blk_far ?_ NB372_375.out _; (with_reducible repeat (first | refine blk_drewN ?_ _ | refine blk_drew ?_ | refine blk_alloc ?_ _)); refine blk_far ?_ NB372_375.out _; (with_reducible repeat (first | refine blk_drewN ?_ _ | refine blk_drew ?_ | refine blk_alloc ?_ _)); refine blk_far ?_ NB372_375.out _; (with_reducible repeat (first | refine blk_drewN ?_ _ | refine blk_drew ?_ | refine blk_alloc ?_ _)); exact BK372.out) hb); have n1_ := Aside0.mk (blk_below (g := gb373) (o := .cells #[.int .i64 a1_0, .int .i64 a1_1, .slice A1_2 l1_2.length c1_2, .int .i64 a1_3, .int .i64 a1_4, .slice (some ad374) l1_5.length c1_5, .slice A1_6 l1_6.length c1_6, .slice A1_7 l1_7.length c1_7] 46 (0, 0)) (by (with_reducible repeat (first | refine blk_drewN ?_ _ | refine blk_drew ?_ | refine blk_alloc ?_ _)); refine blk_far ?_ NB373_375.out _; (with_reducible repeat (first | refine blk_drewN ?_ _ | refine blk_drew ?_ | refine blk_alloc ?_ _)); refine blk_far ?_ NB373_375.out _; (with_reducible repeat (first | refine blk_drewN ?_ _ | refine blk_drew ?_ | refine blk_alloc ?_ _)); refine blk_far ?_ NB373_375.out _; (with_reducible repeat (first | refine blk_drewN ?_ _ | refine blk_drew ?_ | refine blk_alloc ?_ _)); exact BK373.out) hb); have n2_ := Aside0.mk (blk_below (g := gb375) (o := .cells #[.int .i64 ((rd_T67 l1_5 x35_2).f0), .int .i64 ((rd_T67 l1_5 x35_2).f1), .int .i64 ((rd_T67 l1_5 x35_2).f2)] 67 (0, 0)) (by (with_reducible repeat (first | refine blk_drewN ?_ _ | refine blk_drew ?_ | refine blk_alloc ?_ _)); refine blk_put (cs := #[.int .i64 ((rd_T67 l1_5 x35_2).f0), .int .i64 ((rd_T67 l1_5 x35_2).f1), .int .i64 0]) ?_ 2 _ rfl; (with_reducible repeat (first | refine blk_drewN ?_ _ | refine blk_drew ?_ | refine blk_alloc ?_ _)); refine blk_put (cs := #[.int .i64 ((rd_T67 l1_5 x35_2).f0), .int .i64 0, .int .i64 0]) ?_ 1 _ rfl; (with_reducible repeat (first | refine blk_drewN ?_ _ | refine blk_drew ?_ | refine blk_alloc ?_ _)); refine blk_put (cs := #[.int .i64 0, .int .i64 0, .int .i64 0]) ?_ 0 _ rfl; (with_reducible repeat (first | refine blk_drewN ?_ _ | refine blk_drew ?_ | refine blk_alloc ?_ _)); exact BK375.out) hb); have n3_ := Aside0.mk (below_step (by repeat (first | (with_reducible first | exact HB.out | apply below_alloc | apply pw_below_drewN | apply below_drew1 | refine below_set ?_ GE372.out | refine below_set ?_ GE373.out | refine below_set ?_ GE375.out) | exact HB.out)) hb); have n4_ := Aside0.mk (hbox); have n5_ := Aside0.mk ((by rw [hg]; exact (below_size (by repeat (first | (with_reducible first | exact HB.out | apply below_alloc | apply pw_below_drewN | apply below_drew1 | refine below_set ?_ GE372.out | refine below_set ?_ GE373.out | refine below_set ?_ GE375.out) | exact HB.out))) : w.heap.size ≤ gb379)); have n6_ := Aside0.mk ((by rw [hg]; exact (below_size (by repeat (first | (with_reducible first | exact HB.out | apply below_alloc | apply pw_below_drewN | apply below_drew1 | refine below_set ?_ GE372.out | refine below_set ?_ GE373.out | refine below_set ?_ GE375.out) | exact HB.out))) : w.heap.size ≤ gb379)); have n7_ := Aside0.mk ((by rw [hg]; exact Nat.ne_of_lt (blk_lt (g := gb372) (o := .cells #[.slice A0_0 l0_0.length c0_0, .slice A0_1 l0_1.length c0_1] 31 (0, 0)) (by (with_reducible repeat (first | refine blk_drewN ?_ _ | refine blk_drew ?_ | refine blk_alloc ?_ _)); refine blk_far ?_ NB372_375.out _; (with_reducible repeat (first | refine blk_drewN ?_ _ | refine blk_drew ?_ | refine blk_alloc ?_ _)); refine blk_far ?_ NB372_375.out _; (with_reducible repeat (first | refine blk_drewN ?_ _ | refine blk_drew ?_ | refine blk_alloc ?_ _)); refine blk_far ?_ NB372_375.out _; (with_reducible repeat (first | refine blk_drewN ?_ _ | refine blk_drew ?_ | refine blk_alloc ?_ _)); exact BK372.out)) : gb372 ≠ gb379)); have n8_ := Aside0.mk ((by rw [hg]; exact Nat.ne_of_gt (blk_lt (g := gb372) (o := .cells #[.slice A0_0 l0_0.length c0_0, .slice A0_1 l0_1.length c0_1] 31 (0, 0)) (by (with_reducible repeat (first | refine blk_drewN ?_ _ | refine blk_drew ?_ | refine blk_alloc ?_ _)); refine blk_far ?_ NB372_375.out _; (with_reducible repeat (first | refine blk_drewN ?_ _ | refine blk_drew ?_ | refine blk_alloc ?_ _)); refine blk_far ?_ NB372_375.out _; (with_reducible repeat (first | refine blk_drewN ?_ _ | refine blk_drew ?_ | refine blk_alloc ?_ _)); refine blk_far ?_ NB372_375.out _; (with_reducible repeat (first | refine blk_drewN ?_ _ | refine blk_drew ?_ | refine blk_alloc ?_ _)); exact BK372.out)) : gb379 ≠ gb372)); have n9_ := Aside0.mk ((by rw [hg]; exact Nat.ne_of_lt (blk_lt (g := gb373) (o := .cells #[.int .i64 a1_0, .int .i64 a1_1, .slice A1_2 l1_2.length c1_2, .int .i64 a1_3, .int .i64 a1_4, .slice (some ad374) l1_5.length c1_5, .slice A1_6 l1_6.length c1_6, .slice A1_7 l1_7.length c1_7] 46 (0, 0)) (by (with_reducible repeat (first | refine blk_drewN ?_ _ | refine blk_drew ?_ | refine blk_alloc ?_ _)); refine blk_far ?_ NB373_375.out _; (with_reducible repeat (first | refine blk_drewN ?_ _ | refine blk_drew ?_ | refine blk_alloc ?_ _)); refine blk_far ?_ NB373_375.out _; (with_reducible repeat (first | refine blk_drewN ?_ _ | refine blk_drew ?_ | refine blk_alloc ?_ _)); refine blk_far ?_ NB373_375.out _; (with_reducible repeat (first | refine blk_drewN ?_ _ | refine blk_drew ?_ | refine blk_alloc ?_ _)); exact BK373.out)) : gb373 ≠ gb379)); have n10_ := Aside0.mk ((by rw [hg]; exact Nat.ne_of_gt (blk_lt (g := gb373) (o := .cells #[.int .i64 a1_0, .int .i64 a1_1, .slice A1_2 l1_2.length c1_2, .int .i64 a1_3, .int .i64 a1_4, .slice (some ad374) l1_5.length c1_5, .slice A1_6 l1_6.length c1_6, .slice A1_7 l1_7.length c1_7] 46 (0, 0)) (by (with_reducible repeat (first | refine blk_drewN ?_ _ | refine blk_drew ?_ | refine blk_alloc ?_ _)); refine blk_far ?_ NB373_375.out _; (with_reducible repeat (first | refine blk_drewN ?_ _ | refine blk_drew ?_ | refine blk_alloc ?_ _)); refine blk_far ?_ NB373_375.out _; (with_reducible repeat (first | refine blk_drewN ?_ _ | refine blk_drew ?_ | refine blk_alloc ?_ _)); refine blk_far ?_ NB373_375.out _; (with_reducible repeat (first | refine blk_drewN ?_ _ | refine blk_drew ?_ | refine blk_alloc ?_ _)); exact BK373.out)) : gb379 ≠ gb373)); have n11_ := Aside0.mk ((by rw [hg]; exact Nat.ne_of_lt (blk_lt (g := gb375) (o := .cells #[.int .i64 ((rd_T67 l1_5 x35_2).f0), .int .i64 ((rd_T67 l1_5 x35_2).f1), .int .i64 ((rd_T67 l1_5 x35_2).f2)] 67 (0, 0)) (by (with_reducible repeat (first | refine blk_drewN ?_ _ | refine blk_drew ?_ | refine blk_alloc ?_ _)); refine blk_put (cs := #[.int .i64 ((rd_T67 l1_5 x35_2).f0), .int .i64 ((rd_T67 l1_5 x35_2).f1), .int .i64 0]) ?_ 2 _ rfl; (with_reducible repeat (first | refine blk_drewN ?_ _ | refine blk_drew ?_ | refine blk_alloc ?_ _)); refine blk_put (cs := #[.int .i64 ((rd_T67 l1_5 x35_2).f0), .int .i64 0, .int .i64 0]) ?_ 1 _ rfl; (with_reducible repeat (first | refine blk_drewN ?_ _ | refine blk_drew ?_ | refine blk_alloc ?_ _)); refine blk_put (cs := #[.int .i64 0, .int .i64 0, .int .i64 0]) ?_ 0 _ rfl; (with_reducible repeat (first | refine blk_drewN ?_ _ | refine blk_drew ?_ | refine blk_alloc ?_ _)); exact BK375.out)) : gb375 ≠ gb379)); have n12_ := Aside0.mk ((by rw [hg]; exact Nat.ne_of_gt (blk_lt (g := gb375) (o := .cells #[.int .i64 ((rd_T67 l1_5 x35_2).f0), .int .i64 ((rd_T67 l1_5 x35_2).f1), .int .i64 ((rd_T67 l1_5 x35_2).f2)] 67 (0, 0)) (by (with_reducible repeat (first | refine blk_drewN ?_ _ | refine blk_drew ?_ | refine blk_alloc ?_ _)); refine blk_put (cs := #[.int .i64 ((rd_T67 l1_5 x35_2).f0), .int .i64 ((rd_T67 l1_5 x35_2).f1), .int .i64 0]) ?_ 2 _ rfl; (with_reducible repeat (first | refine blk_drewN ?_ _ | refine blk_drew ?_ | refine blk_alloc ?_ _)); refine blk_put (cs := #[.int .i64 ((rd_T67 l1_5 x35_2).f0), .int .i64 0, .int .i64 0]) ?_ 1 _ rfl; (with_reducible repeat (first | refine blk_drewN ?_ _ | refine blk_drew ?_ | refine blk_alloc ?_ _)); refine blk_put (cs := #[.int .i64 0, .int .i64 0, .int .i64 0]) ?_ 0 _ rfl; (with_reducible repeat (first | refine blk_drewN ?_ _ | refine blk_drew ?_ | refine blk_alloc ?_ _)); exact BK375.out)) : gb379 ≠ gb375)); clear BK372; clear BK373; clear BK375; clear HB; have BK372 := n0_; have BK373 := n1_; have BK375 := n2_; have HB := n3_; have BK379 := n4_; have GW379 := n5_; have GE379 := n6_; have NB372_379 := n7_; have NB379_372 := n8_; have NB373_379 := n9_; have NB379_373 := n10_; have NB375_379 := n11_; have NB379_375 := n12_; clear n0_ n1_ n2_ n3_ n4_ n5_ n6_ n7_ n8_ n9_ n10_ n11_ n12_; clear hb hbox hg; have hnb70 := NB379_372.out; have hnc70 := NB372_379.out; have hnb71 := NB379_373.out; have hnc71 := NB373_379.out; have hnb72 := NB379_375.out; have hnc72 := NB375_379.out; have hcz73_0 : w69.cell? ⟨gb379, 0, none⟩ = some (.int .i64 0) := (blk_cell BK379.out 0).trans rfl; have hcz73_1 : w69.cell? ⟨gb379, 1, none⟩ = some (.int .i64 0) := (blk_cell BK379.out 1).trans rfl; have hfz73_0 := blk_frozen BK379.out 0; have hfz73_1 := blk_frozen BK379.out 1; have hnb74 := NB372_373.out; have hnc74 := NB373_372.out; have hcz75_0 : w69.cell? ⟨gb372, 0, none⟩ = some (.slice A0_0 l0_0.length c0_0) := (blk_cell BK372.out 0).trans rfl; have hcz75_1 : w69.cell? ⟨gb372, 1, none⟩ = some (.slice A0_1 l0_1.length c0_1) := (blk_cell BK372.out 1).trans rfl; have hfz75_0 := blk_frozen BK372.out 0; have hfz75_1 := blk_frozen BK372.out 1; have hcz76_0 : w69.cell? ⟨gb373, 0, none⟩ = some (.int .i64 a1_0) := (blk_cell BK373.out 0).trans rfl; have hcz76_1 : w69.cell? ⟨gb373, 1, none⟩ = some (.int .i64 a1_1) := (blk_cell BK373.out 1).trans rfl; have hcz76_2 : w69.cell? ⟨gb373, 2, none⟩ = some (.slice A1_2 l1_2.length c1_2) := (blk_cell BK373.out 2).trans rfl; have hcz76_3 : w69.cell? ⟨gb373, 3, none⟩ = some (.int .i64 a1_3) := (blk_cell BK373.out 3).trans rfl; have hcz76_4 : w69.cell? ⟨gb373, 4, none⟩ = some (.int .i64 a1_4) := (blk_cell BK373.out 4).trans rfl; have hcz76_5 : w69.cell? ⟨gb373, 5, none⟩ = some (.slice (some ad374) l1_5.length c1_5) := (blk_cell BK373.out 5).trans rfl; have hcz76_6 : w69.cell? ⟨gb373, 6, none⟩ = some (.slice A1_6 l1_6.length c1_6) := (blk_cell BK373.out 6).trans rfl; have hcz76_7 : w69.cell? ⟨gb373, 7, none⟩ = some (.slice A1_7 l1_7.length c1_7) := (blk_cell BK373.out 7).trans rfl; have hfz76_0 := blk_frozen BK373.out 0; have hfz76_1 := blk_frozen BK373.out 1; have hfz76_2 := blk_frozen BK373.out 2; have hfz76_3 := blk_frozen BK373.out 3; have hfz76_4 := blk_frozen BK373.out 4; have hfz76_5 := blk_frozen BK373.out 5; have hfz76_6 := blk_frozen BK373.out 6; have hfz76_7 := blk_frozen BK373.out 7; have hcz77_0 : w69.cell? ⟨gb375, 0, none⟩ = some (.int .i64 ((rd_T67 l1_5 x35_2).f0)) := (blk_cell BK375.out 0).trans rfl; have hcz77_1 : w69.cell? ⟨gb375, 1, none⟩ = some (.int .i64 ((rd_T67 l1_5 x35_2).f1)) := (blk_cell BK375.out 1).trans rfl; have hcz77_2 : w69.cell? ⟨gb375, 2, none⟩ = some (.int .i64 ((rd_T67 l1_5 x35_2).f2)) := (blk_cell BK375.out 2).trans rfl; have hfz77_0 := blk_frozen BK375.out 0; have hfz77_1 := blk_frozen BK375.out 1; have hfz77_2 := blk_frozen BK375.out 2) | (go_at_call 44; (with_reducible refine (impl_operandOk.calls k2 _ _ l0_0 _ _ l0_1 a1_0 a1_1 _ _ l1_2 a1_3 a1_4 _ _ l1_5 _ _ l1_6 _ _ l1_7 ((rd_T67 l1_5 x35_2).f0) ((rd_T67 l1_5 x35_2).f1) ((rd_T67 l1_5 x35_2).f2) t376 ((rd_T67 l1_5 x35_2).f1) false _ ?side1 ?side2 ?side3 ?side4 ?side5 ?side6 ?side7 ?side8 ?side9 ?side10 ?side11 ?side12 A23.out).mono ?_); (case side1 => exact Kd.C_below HR0_0.out (by repeat (first | (with_reducible first | exact HB.out | apply below_alloc | apply pw_below_drewN | apply below_drew1 | refine below_set ?_ GE372.out | refine below_set ?_ GE373.out | refine below_set ?_ GE375.out | refine below_set ?_ GE379.out) | exact HB.out))); (case side2 => exact HC0_0.out); (case side3 => exact Kd.C_below HR0_1.out (by repeat (first | (with_reducible first | exact HB.out | apply below_alloc | apply pw_below_drewN | apply below_drew1 | refine below_set ?_ GE372.out | refine below_set ?_ GE373.out | refine below_set ?_ GE375.out | refine below_set ?_ GE379.out) | exact HB.out))); (case side4 => exact HC0_1.out); (case side5 => exact Kd.C_below HR1_2.out (by repeat (first | (with_reducible first | exact HB.out | apply below_alloc | apply pw_below_drewN | apply below_drew1 | refine below_set ?_ GE372.out | refine below_set ?_ GE373.out | refine below_set ?_ GE375.out | refine below_set ?_ GE379.out) | exact HB.out))); (case side6 => exact HC1_2.out); (case side7 => exact Kd.C_below HR1_5.out (by repeat (first | (with_reducible first | exact HB.out | apply below_alloc | apply pw_below_drewN | apply below_drew1 | refine below_set ?_ GE372.out | refine below_set ?_ GE373.out | refine below_set ?_ GE375.out | refine below_set ?_ GE379.out) | exact HB.out))); (case side8 => exact HC1_5.out); (case side9 => exact Kd.C_below HR1_6.out (by repeat (first | (with_reducible first | exact HB.out | apply below_alloc | apply pw_below_drewN | apply below_drew1 | refine below_set ?_ GE372.out | refine below_set ?_ GE373.out | refine below_set ?_ GE375.out | refine below_set ?_ GE379.out) | exact HB.out))); (case side10 => exact HC1_6.out); (case side11 => exact Kd.C_below HR1_7.out (by repeat (first | (with_reducible first | exact HB.out | apply below_alloc | apply pw_below_drewN | apply below_drew1 | refine below_set ?_ GE372.out | refine below_set ?_ GE373.out | refine below_set ?_ GE375.out | refine below_set ?_ GE379.out) | exact HB.out))); (case side12 => exact HC1_7.out); rintro e w78 ⟨rfl, hb⟩; have n0_ := Aside0.mk (blk_below (g := gb372) (o := .cells #[.slice A0_0 l0_0.length c0_0, .slice A0_1 l0_1.length c0_1] 31 (0, 0)) (by (with_reducible repeat (first | refine blk_drewN ?_ _ | refine blk_drew ?_ | refine blk_alloc ?_ _)); refine blk_far ?_ NB372_379.out _; (with_reducible repeat (first | refine blk_drewN ?_ _ | refine blk_drew ?_ | refine blk_alloc ?_ _)); refine blk_far ?_ NB372_379.out _; (with_reducible repeat (first | refine blk_drewN ?_ _ | refine blk_drew ?_ | refine blk_alloc ?_ _)); exact BK372.out) hb); have n1_ := Aside0.mk (blk_below (g := gb373) (o := .cells #[.int .i64 a1_0, .int .i64 a1_1, .slice A1_2 l1_2.length c1_2, .int .i64 a1_3, .int .i64 a1_4, .slice (some ad374) l1_5.length c1_5, .slice A1_6 l1_6.length c1_6, .slice A1_7 l1_7.length c1_7] 46 (0, 0)) (by (with_reducible repeat (first | refine blk_drewN ?_ _ | refine blk_drew ?_ | refine blk_alloc ?_ _)); refine blk_far ?_ NB373_379.out _; (with_reducible repeat (first | refine blk_drewN ?_ _ | refine blk_drew ?_ | refine blk_alloc ?_ _)); refine blk_far ?_ NB373_379.out _; (with_reducible repeat (first | refine blk_drewN ?_ _ | refine blk_drew ?_ | refine blk_alloc ?_ _)); exact BK373.out) hb); have n2_ := Aside0.mk (blk_below (g := gb375) (o := .cells #[.int .i64 ((rd_T67 l1_5 x35_2).f0), .int .i64 ((rd_T67 l1_5 x35_2).f1), .int .i64 ((rd_T67 l1_5 x35_2).f2)] 67 (0, 0)) (by (with_reducible repeat (first | refine blk_drewN ?_ _ | refine blk_drew ?_ | refine blk_alloc ?_ _)); refine blk_far ?_ NB375_379.out _; (with_reducible repeat (first | refine blk_drewN ?_ _ | refine blk_drew ?_ | refine blk_alloc ?_ _)); refine blk_far ?_ NB375_379.out _; (with_reducible repeat (first | refine blk_drewN ?_ _ | refine blk_drew ?_ | refine blk_alloc ?_ _)); exact BK375.out) hb); have n3_ := Aside0.mk (blk_below (g := gb379) (o := .cells #[.int .i64 t376, .int .i64 t377] 82 (0, 0)) (by (with_reducible repeat (first | refine blk_drewN ?_ _ | refine blk_drew ?_ | refine blk_alloc ?_ _)); refine blk_put (cs := #[.int .i64 t376, .int .i64 0]) ?_ 1 _ rfl; (with_reducible repeat (first | refine blk_drewN ?_ _ | refine blk_drew ?_ | refine blk_alloc ?_ _)); refine blk_put (cs := #[.int .i64 0, .int .i64 0]) ?_ 0 _ rfl; (with_reducible repeat (first | refine blk_drewN ?_ _ | refine blk_drew ?_ | refine blk_alloc ?_ _)); exact BK379.out) hb); have n4_ := Aside0.mk (below_step (by repeat (first | (with_reducible first | exact HB.out | apply below_alloc | apply pw_below_drewN | apply below_drew1 | refine below_set ?_ GE372.out | refine below_set ?_ GE373.out | refine below_set ?_ GE375.out | refine below_set ?_ GE379.out) | exact HB.out)) hb); clear BK372; clear BK373; clear BK375; clear BK379; clear HB; have BK372 := n0_; have BK373 := n1_; have BK375 := n2_; have BK379 := n3_; have HB := n4_; clear n0_ n1_ n2_ n3_ n4_; (try clear hb); (try clear hb2); (try clear hk); (try clear hi)))
                      go_ret
                      exact ⟨by first | rfl | (simp [errW_none, errW_some] <;> rfl) | (simp [*, errW_none, errW_some] <;> rfl), by repeat (first | (with_reducible first | exact HB.out | apply below_alloc | apply pw_below_drewN | apply below_drew1 | refine below_set ?_ GE372.out | refine below_set ?_ GE373.out | refine below_set ?_ GE375.out | refine below_set ?_ GE379.out) | exact HB.out)⟩
                  · replace c22 := Bool.eq_false_iff.mpr c22
                    subst c22
                    have H1 : (some false) = some r := by rw [if_neg (show ¬ (false = true) by decide)] at H; exact H
                    clear H
                    have H := H1
                    clear H1
                    obtain rfl := Option.some.inj H
                    simp only [Option.some.injEq, Prod.mk.injEq] at H
                    obtain ⟨rfl⟩ := H
                    have p374 : 0 ≤ (x35_2 : Int) := of_decide_eq_true (by first | (with_reducible assumption) | assumption)
                    have q374 : x35_2 < (l1_5.length : Int) := of_decide_eq_true (by first | (with_reducible assumption) | assumption)
                    obtain ⟨ad374, e374, hx374_0, hx374_1, hx374_2⟩ := at_T67 HR1_5.out x35_2 p374 q374
                    cases e374
                    replace hx374_0 := (HB.out.cell (World.block_lt_of_cell? w _ hx374_0)).trans hx374_0
                    replace hx374_1 := (HB.out.cell (World.block_lt_of_cell? w _ hx374_1)).trans hx374_1
                    replace hx374_2 := (HB.out.cell (World.block_lt_of_cell? w _ hx374_2)).trans hx374_2
                    replace p374 := eq_true p374
                    replace q374 := eq_true q374
                    go_wp2_with (first | ((with_reducible refine gate_dst (N := 8) rfl ?_); (try (refine gate_guard (by rfl) ?_; dsimp only)); refine box_event ?hg (N := 8) ?hd (cs := #[.int .i64 0, .int .i64 0, .int .i64 0]) (t := 67) ?hr ?_; (case hd => rfl); (case hg => rfl); (case hr => first | (go_simp; done) | (go_simp; rfl)); intro gb375 hg w79 hbox hb; have n0_ := Aside0.mk (blk_below (g := gb372) (o := .cells #[.slice A0_0 l0_0.length c0_0, .slice A0_1 l0_1.length c0_1] 31 (0, 0)) (by (with_reducible repeat (first | refine blk_drewN ?_ _ | refine blk_drew ?_ | refine blk_alloc ?_ _)); exact BK372.out) hb); have n1_ := Aside0.mk (blk_below (g := gb373) (o := .cells #[.int .i64 a1_0, .int .i64 a1_1, .slice A1_2 l1_2.length c1_2, .int .i64 a1_3, .int .i64 a1_4, .slice (some ad374) l1_5.length c1_5, .slice A1_6 l1_6.length c1_6, .slice A1_7 l1_7.length c1_7] 46 (0, 0)) (by (with_reducible repeat (first | refine blk_drewN ?_ _ | refine blk_drew ?_ | refine blk_alloc ?_ _)); exact BK373.out) hb); have n2_ := Aside0.mk (below_step (by repeat (first | (with_reducible first | exact HB.out | apply below_alloc | apply pw_below_drewN | apply below_drew1 | refine below_set ?_ GE372.out | refine below_set ?_ GE373.out) | exact HB.out)) hb); have n3_ := Aside0.mk (hbox); have n4_ := Aside0.mk ((by rw [hg]; exact (below_size (by repeat (first | (with_reducible first | exact HB.out | apply below_alloc | apply pw_below_drewN | apply below_drew1 | refine below_set ?_ GE372.out | refine below_set ?_ GE373.out) | exact HB.out))) : w.heap.size ≤ gb375)); have n5_ := Aside0.mk ((by rw [hg]; exact (below_size (by repeat (first | (with_reducible first | exact HB.out | apply below_alloc | apply pw_below_drewN | apply below_drew1 | refine below_set ?_ GE372.out | refine below_set ?_ GE373.out) | exact HB.out))) : w.heap.size ≤ gb375)); have n6_ := Aside0.mk ((by rw [hg]; exact Nat.ne_of_lt (blk_lt (g := gb372) (o := .cells #[.slice A0_0 l0_0.length c0_0, .slice A0_1 l0_1.length c0_1] 31 (0, 0)) (by (with_reducible repeat (first | refine blk_drewN ?_ _ | refine blk_drew ?_ | refine blk_alloc ?_ _)); exact BK372.out)) : gb372 ≠ gb375)); have n7_ := Aside0.mk ((by rw [hg]; exact Nat.ne_of_gt (blk_lt (g := gb372) (o := .cells #[.slice A0_0 l0_0.length c0_0, .slice A0_1 l0_1.length c0_1] 31 (0, 0)) (by (with_reducible repeat (first | refine blk_drewN ?_ _ | refine blk_drew ?_ | refine blk_alloc ?_ _)); exact BK372.out)) : gb375 ≠ gb372)); have n8_ := Aside0.mk ((by rw [hg]; exact Nat.ne_of_lt (blk_lt (g := gb373) (o := .cells #[.int .i64 a1_0, .int .i64 a1_1, .slice A1_2 l1_2.length c1_2, .int .i64 a1_3, .int .i64 a1_4, .slice (some ad374) l1_5.length c1_5, .slice A1_6 l1_6.length c1_6, .slice A1_7 l1_7.length c1_7] 46 (0, 0)) (by (with_reducible repeat (first | refine blk_drewN ?_ _ | refine blk_drew ?_ | refine blk_alloc ?_ _)); exact BK373.out)) : gb373 ≠ gb375)); have n9_ := Aside0.mk ((by rw [hg]; exact Nat.ne_of_gt (blk_lt (g := gb373) (o := .cells #[.int .i64 a1_0, .int .i64 a1_1, .slice A1_2 l1_2.length c1_2, .int .i64 a1_3, .int .i64 a1_4, .slice (some ad374) l1_5.length c1_5, .slice A1_6 l1_6.length c1_6, .slice A1_7 l1_7.length c1_7] 46 (0, 0)) (by (with_reducible repeat (first | refine blk_drewN ?_ _ | refine blk_drew ?_ | refine blk_alloc ?_ _)); exact BK373.out)) : gb375 ≠ gb373)); clear BK372; clear BK373; clear HB; have BK372 := n0_; have BK373 := n1_; have HB := n2_; have BK375 := n3_; have GW375 := n4_; have GE375 := n5_; have NB372_375 := n6_; have NB375_372 := n7_; have NB373_375 := n8_; have NB375_373 := n9_; clear n0_ n1_ n2_ n3_ n4_ n5_ n6_ n7_ n8_ n9_; clear hb hbox hg; have hnb80 := NB375_372.out; have hnc80 := NB372_375.out; have hnb81 := NB375_373.out; have hnc81 := NB373_375.out; have hcz82_0 : w79.cell? ⟨gb375, 0, none⟩ = some (.int .i64 0) := (blk_cell BK375.out 0).trans rfl; have hcz82_1 : w79.cell? ⟨gb375, 1, none⟩ = some (.int .i64 0) := (blk_cell BK375.out 1).trans rfl; have hcz82_2 : w79.cell? ⟨gb375, 2, none⟩ = some (.int .i64 0) := (blk_cell BK375.out 2).trans rfl; have hfz82_0 := blk_frozen BK375.out 0; have hfz82_1 := blk_frozen BK375.out 1; have hfz82_2 := blk_frozen BK375.out 2) | ((with_reducible refine gate_dst (N := 43) rfl ?_); refine want_event rfl rfl rfl rfl (blk_below HGM.out (by repeat (first | (with_reducible first | exact HB.out | apply below_alloc | apply pw_below_drewN | apply below_drew1 | refine below_set ?_ GE372.out | refine below_set ?_ GE373.out | refine below_set ?_ GE375.out) | exact HB.out))) A21.out ?_) | ((with_reducible refine gate_dst (N := 9) rfl ?_); (try (refine gate_guard (by rfl) ?_; dsimp only)); refine box_event ?hg (N := 9) ?hd (cs := #[.int .i64 0, .int .i64 0]) (t := 82) ?hr ?_; (case hd => rfl); (case hg => rfl); (case hr => first | (go_simp; done) | (go_simp; rfl)); intro gb379 hg w83 hbox hb; have n0_ := Aside0.mk (blk_below (g := gb372) (o := .cells #[.slice A0_0 l0_0.length c0_0, .slice A0_1 l0_1.length c0_1] 31 (0, 0)) (by (with_reducible repeat (first | refine blk_drewN ?_ _ | refine blk_drew ?_ | refine blk_alloc ?_ _)); refine blk_far ?_ NB372_375.out _; (with_reducible repeat (first | refine blk_drewN ?_ _ | refine blk_drew ?_ | refine blk_alloc ?_ _)); refine blk_far ?_ NB372_375.out _; (with_reducible repeat (first | refine blk_drewN ?_ _ | refine blk_drew ?_ | refine blk_alloc ?_ _)); refine blk_far ?_ NB372_375.out _; (with_reducible repeat (first | refine blk_drewN ?_ _ | refine blk_drew ?_ | refine blk_alloc ?_ _)); exact BK372.out) hb); have n1_ := Aside0.mk (blk_below (g := gb373) (o := .cells #[.int .i64 a1_0, .int .i64 a1_1, .slice A1_2 l1_2.length c1_2, .int .i64 a1_3, .int .i64 a1_4, .slice (some ad374) l1_5.length c1_5, .slice A1_6 l1_6.length c1_6, .slice A1_7 l1_7.length c1_7] 46 (0, 0)) (by (with_reducible repeat (first | refine blk_drewN ?_ _ | refine blk_drew ?_ | refine blk_alloc ?_ _)); refine blk_far ?_ NB373_375.out _; (with_reducible repeat (first | refine blk_drewN ?_ _ | refine blk_drew ?_ | refine blk_alloc ?_ _)); refine blk_far ?_ NB373_375.out _; (with_reducible repeat (first | refine blk_drewN ?_ _ | refine blk_drew ?_ | refine blk_alloc ?_ _)); refine blk_far ?_ NB373_375.out _; (with_reducible repeat (first | refine blk_drewN ?_ _ | refine blk_drew ?_ | refine blk_alloc ?_ _)); exact BK373.out) hb); have n2_ := Aside0.mk (blk_below (g := gb375) (o := .cells #[.int .i64 ((rd_T67 l1_5 x35_2).f0), .int .i64 ((rd_T67 l1_5 x35_2).f1), .int .i64 ((rd_T67 l1_5 x35_2).f2)] 67 (0, 0)) (by (with_reducible repeat (first | refine blk_drewN ?_ _ | refine blk_drew ?_ | refine blk_alloc ?_ _)); refine blk_put (cs := #[.int .i64 ((rd_T67 l1_5 x35_2).f0), .int .i64 ((rd_T67 l1_5 x35_2).f1), .int .i64 0]) ?_ 2 _ rfl; (with_reducible repeat (first | refine blk_drewN ?_ _ | refine blk_drew ?_ | refine blk_alloc ?_ _)); refine blk_put (cs := #[.int .i64 ((rd_T67 l1_5 x35_2).f0), .int .i64 0, .int .i64 0]) ?_ 1 _ rfl; (with_reducible repeat (first | refine blk_drewN ?_ _ | refine blk_drew ?_ | refine blk_alloc ?_ _)); refine blk_put (cs := #[.int .i64 0, .int .i64 0, .int .i64 0]) ?_ 0 _ rfl; (with_reducible repeat (first | refine blk_drewN ?_ _ | refine blk_drew ?_ | refine blk_alloc ?_ _)); exact BK375.out) hb); have n3_ := Aside0.mk (below_step (by repeat (first | (with_reducible first | exact HB.out | apply below_alloc | apply pw_below_drewN | apply below_drew1 | refine below_set ?_ GE372.out | refine below_set ?_ GE373.out | refine below_set ?_ GE375.out) | exact HB.out)) hb); have n4_ := Aside0.mk (hbox); have n5_ := Aside0.mk ((by rw [hg]; exact (below_size (by repeat (first | (with_reducible first | exact HB.out | apply below_alloc | apply pw_below_drewN | apply below_drew1 | refine below_set ?_ GE372.out | refine below_set ?_ GE373.out | refine below_set ?_ GE375.out) | exact HB.out))) : w.heap.size ≤ gb379)); have n6_ := Aside0.mk ((by rw [hg]; exact (below_size (by repeat (first | (with_reducible first | exact HB.out | apply below_alloc | apply pw_below_drewN | apply below_drew1 | refine below_set ?_ GE372.out | refine below_set ?_ GE373.out | refine below_set ?_ GE375.out) | exact HB.out))) : w.heap.size ≤ gb379)); have n7_ := Aside0.mk ((by rw [hg]; exact Nat.ne_of_lt (blk_lt (g := gb372) (o := .cells #[.slice A0_0 l0_0.length c0_0, .slice A0_1 l0_1.length c0_1] 31 (0, 0)) (by (with_reducible repeat (first | refine blk_drewN ?_ _ | refine blk_drew ?_ | refine blk_alloc ?_ _)); refine blk_far ?_ NB372_375.out _; (with_reducible repeat (first | refine blk_drewN ?_ _ | refine blk_drew ?_ | refine blk_alloc ?_ _)); refine blk_far ?_ NB372_375.out _; (with_reducible repeat (first | refine blk_drewN ?_ _ | refine blk_drew ?_ | refine blk_alloc ?_ _)); refine blk_far ?_ NB372_375.out _; (with_reducible repeat (first | refine blk_drewN ?_ _ | refine blk_drew ?_ | refine blk_alloc ?_ _)); exact BK372.out)) : gb372 ≠ gb379)); have n8_ := Aside0.mk ((by rw [hg]; exact Nat.ne_of_gt (blk_lt (g := gb372) (o := .cells #[.slice A0_0 l0_0.length c0_0, .slice A0_1 l0_1.length c0_1] 31 (0, 0)) (by (with_reducible repeat (first | refine blk_drewN ?_ _ | refine blk_drew ?_ | refine blk_alloc ?_ _)); refine blk_far ?_ NB372_375.out _; (with_reducible repeat (first | refine blk_drewN ?_ _ | refine blk_drew ?_ | refine blk_alloc ?_ _)); refine blk_far ?_ NB372_375.out _; (with_reducible repeat (first | refine blk_drewN ?_ _ | refine blk_drew ?_ | refine blk_alloc ?_ _)); refine blk_far ?_ NB372_375.out _; (with_reducible repeat (first | refine blk_drewN ?_ _ | refine blk_drew ?_ | refine blk_alloc ?_ _)); exact BK372.out)) : gb379 ≠ gb372)); have n9_ := Aside0.mk ((by rw [hg]; exact Nat.ne_of_lt (blk_lt (g := gb373) (o := .cells #[.int .i64 a1_0, .int .i64 a1_1, .slice A1_2 l1_2.length c1_2, .int .i64 a1_3, .int .i64 a1_4, .slice (some ad374) l1_5.length c1_5, .slice A1_6 l1_6.length c1_6, .slice A1_7 l1_7.length c1_7] 46 (0, 0)) (by (with_reducible repeat (first | refine blk_drewN ?_ _ | refine blk_drew ?_ | refine blk_alloc ?_ _)); refine blk_far ?_ NB373_375.out _; (with_reducible repeat (first | refine blk_drewN ?_ _ | refine blk_drew ?_ | refine blk_alloc ?_ _)); refine blk_far ?_ NB373_375.out _; (with_reducible repeat (first | refine blk_drewN ?_ _ | refine blk_drew ?_ | refine blk_alloc ?_ _)); refine blk_far ?_ NB373_375.out _; (with_reducible repeat (first | refine blk_drewN ?_ _ | refine blk_drew ?_ | refine blk_alloc ?_ _)); exact BK373.out)) : gb373 ≠ gb379)); have n10_ := Aside0.mk ((by rw [hg]; exact Nat.ne_of_gt (blk_lt (g := gb373) (o := .cells #[.int .i64 a1_0, .int .i64 a1_1, .slice A1_2 l1_2.length c1_2, .int .i64 a1_3, .int .i64 a1_4, .slice (some ad374) l1_5.length c1_5, .slice A1_6 l1_6.length c1_6, .slice A1_7 l1_7.length c1_7] 46 (0, 0)) (by (with_reducible repeat (first | refine blk_drewN ?_ _ | refine blk_drew ?_ | refine blk_alloc ?_ _)); refine blk_far ?_ NB373_375.out _; (with_reducible repeat (first | refine blk_drewN ?_ _ | refine blk_drew ?_ | refine blk_alloc ?_ _)); refine blk_far ?_ NB373_375.out _; (with_reducible repeat (first | refine blk_drewN ?_ _ | refine blk_drew ?_ | refine blk_alloc ?_ _)); refine blk_far ?_ NB373_375.out _; (with_reducible repeat (first | refine blk_drewN ?_ _ | refine blk_drew ?_ | refine blk_alloc ?_ _)); exact BK373.out)) : gb379 ≠ gb373)); have n11_ := Aside0.mk ((by rw [hg]; exact Nat.ne_of_lt (blk_lt (g := gb375) (o := .cells #[.int .i64 ((rd_T67 l1_5 x35_2).f0), .int .i64 ((rd_T67 l1_5 x35_2).f1), .int .i64 ((rd_T67 l1_5 x35_2).f2)] 67 (0, 0)) (by (with_reducible repeat (first | refine blk_drewN ?_ _ | refine blk_drew ?_ | refine blk_alloc ?_ _)); refine blk_put (cs := #[.int .i64 ((rd_T67 l1_5 x35_2).f0), .int .i64 ((rd_T67 l1_5 x35_2).f1), .int .i64 0]) ?_ 2 _ rfl; (with_reducible repeat (first | refine blk_drewN ?_ _ | refine blk_drew ?_ | refine blk_alloc ?_ _)); refine blk_put (cs := #[.int .i64 ((rd_T67 l1_5 x35_2).f0), .int .i64 0, .int .i64 0]) ?_ 1 _ rfl; (with_reducible repeat (first | refine blk_drewN ?_ _ | refine blk_drew ?_ | refine blk_alloc ?_ _)); refine blk_put (cs := #[.int .i64 0, .int .i64 0, .int .i64 0]) ?_ 0 _ rfl; (with_reducible repeat (first | refine blk_drewN ?_ _ | refine blk_drew ?_ | refine blk_alloc ?_ _)); exact BK375.out)) : gb375 ≠ gb379)); have n12_ := Aside0.mk ((by rw [hg]; exact Nat.ne_of_gt (blk_lt (g := gb375) (o := .cells #[.int .i64 ((rd_T67 l1_5 x35_2).f0), .int .i64 ((rd_T67 l1_5 x35_2).f1), .int .i64 ((rd_T67 l1_5 x35_2).f2)] 67 (0, 0)) (by (with_reducible repeat (first | refine blk_drewN ?_ _ | refine blk_drew ?_ | refine blk_alloc ?_ _)); refine blk_put (cs := #[.int .i64 ((rd_T67 l1_5 x35_2).f0), .int .i64 ((rd_T67 l1_5 x35_2).f1), .int .i64 0]) ?_ 2 _ rfl; (with_reducible repeat (first | refine blk_drewN ?_ _ | refine blk_drew ?_ | refine blk_alloc ?_ _)); refine blk_put (cs := #[.int .i64 ((rd_T67 l1_5 x35_2).f0), .int .i64 0, .int .i64 0]) ?_ 1 _ rfl; (with_reducible repeat (first | refine blk_drewN ?_ _ | refine blk_drew ?_ | refine blk_alloc ?_ _)); refine blk_put (cs := #[.int .i64 0, .int .i64 0, .int .i64 0]) ?_ 0 _ rfl; (with_reducible repeat (first | refine blk_drewN ?_ _ | refine blk_drew ?_ | refine blk_alloc ?_ _)); exact BK375.out)) : gb379 ≠ gb375)); clear BK372; clear BK373; clear BK375; clear HB; have BK372 := n0_; have BK373 := n1_; have BK375 := n2_; have HB := n3_; have BK379 := n4_; have GW379 := n5_; have GE379 := n6_; have NB372_379 := n7_; have NB379_372 := n8_; have NB373_379 := n9_; have NB379_373 := n10_; have NB375_379 := n11_; have NB379_375 := n12_; clear n0_ n1_ n2_ n3_ n4_ n5_ n6_ n7_ n8_ n9_ n10_ n11_ n12_; clear hb hbox hg; have hnb84 := NB379_372.out; have hnc84 := NB372_379.out; have hnb85 := NB379_373.out; have hnc85 := NB373_379.out; have hnb86 := NB379_375.out; have hnc86 := NB375_379.out; have hcz87_0 : w83.cell? ⟨gb379, 0, none⟩ = some (.int .i64 0) := (blk_cell BK379.out 0).trans rfl; have hcz87_1 : w83.cell? ⟨gb379, 1, none⟩ = some (.int .i64 0) := (blk_cell BK379.out 1).trans rfl; have hfz87_0 := blk_frozen BK379.out 0; have hfz87_1 := blk_frozen BK379.out 1))
                    go_ret
                    exact ⟨by first | rfl | (simp [errW_none, errW_some] <;> rfl) | (simp [*, errW_none, errW_some] <;> rfl), by repeat (first | (with_reducible first | exact HB.out | apply below_alloc | apply pw_below_drewN | apply below_drew1 | refine below_set ?_ GE372.out | refine below_set ?_ GE373.out | refine below_set ?_ GE375.out | refine below_set ?_ GE379.out) | exact HB.out)⟩
                · rw [if_neg c20] at H
                  exact absurd H (by simp)
              · rw [if_neg c19] at H
                exact absurd H (by simp)
            · rw [if_neg c18] at H
              have c18b0 : decide (x35_2 < (l1_5.length : Int)) = false := decide_eq_false c18
              clear c18
              have H' := Aside0.mk H
              clear H
              have hnb88 := NB373_372.out
              have hnc88 := NB372_373.out
              have hcz89_0 : wr.cell? ⟨gb373, 0, none⟩ = some (.int .i64 a1_0) := (blk_cell BK373.out 0).trans rfl
              have hcz89_1 : wr.cell? ⟨gb373, 1, none⟩ = some (.int .i64 a1_1) := (blk_cell BK373.out 1).trans rfl
              have hcz89_2 : wr.cell? ⟨gb373, 2, none⟩ = some (.slice A1_2 l1_2.length c1_2) := (blk_cell BK373.out 2).trans rfl
              have hcz89_3 : wr.cell? ⟨gb373, 3, none⟩ = some (.int .i64 a1_3) := (blk_cell BK373.out 3).trans rfl
              have hcz89_4 : wr.cell? ⟨gb373, 4, none⟩ = some (.int .i64 a1_4) := (blk_cell BK373.out 4).trans rfl
              have hcz89_5 : wr.cell? ⟨gb373, 5, none⟩ = some (.slice A1_5 l1_5.length c1_5) := (blk_cell BK373.out 5).trans rfl
              have hcz89_6 : wr.cell? ⟨gb373, 6, none⟩ = some (.slice A1_6 l1_6.length c1_6) := (blk_cell BK373.out 6).trans rfl
              have hcz89_7 : wr.cell? ⟨gb373, 7, none⟩ = some (.slice A1_7 l1_7.length c1_7) := (blk_cell BK373.out 7).trans rfl
              have hfz89_0 := blk_frozen BK373.out 0
              have hfz89_1 := blk_frozen BK373.out 1
              have hfz89_2 := blk_frozen BK373.out 2
              have hfz89_3 := blk_frozen BK373.out 3
              have hfz89_4 := blk_frozen BK373.out 4
              have hfz89_5 := blk_frozen BK373.out 5
              have hfz89_6 := blk_frozen BK373.out 6
              have hfz89_7 := blk_frozen BK373.out 7
              go_wp2
              go_loopg [74] k2 (fun kq v74 w' => ∃ (x74_3 : Int), v74 = .int .i64 x74_3 ∧ Aside0 (impl_codeOk.l1 kq l1_6 (l1_6.length : Int) x74_3 l0_0 l0_1 a1_0 a1_1 l1_2 a1_3 a1_4 l1_5 l1_6 l1_7 = some r) ∧ Aside0 (kq ≤ k2) ∧ Aside0 (w'.heap[gb372]? = some (.cells #[(.slice A0_0 l0_0.length c0_0), (.slice A0_1 l0_1.length c0_1)] 31 (0, 0))) ∧ Aside0 (w'.heap[gb373]? = some (.cells #[.int .i64 a1_0, .int .i64 a1_1, (.slice A1_2 l1_2.length c1_2), .int .i64 a1_3, .int .i64 a1_4, (.slice A1_5 l1_5.length c1_5), (.slice A1_6 l1_6.length c1_6), (.slice A1_7 l1_7.length c1_7)] 46 (0, 0))) ∧ Aside0 (Below w.heap.size w w'))
              case atStart => exact ⟨(0), (by first | rfl | (simp; done) | (simp [*]; done)), H', ⟨Nat.le_refl _⟩, ⟨by (with_reducible repeat (first | refine blk_drewN ?_ _ | refine blk_drew ?_ | refine blk_alloc ?_ _)); exact BK372.out⟩, ⟨by (with_reducible repeat (first | refine blk_drewN ?_ _ | refine blk_drew ?_ | refine blk_alloc ?_ _)); exact BK373.out⟩, ⟨by repeat (first | (with_reducible first | exact HB.out | apply below_alloc | apply pw_below_drewN | apply below_drew1 | refine below_set ?_ GE372.out | refine below_set ?_ GE373.out) | exact HB.out)⟩⟩
              case round =>
                clear H'
                try clear c1
                try clear c2
                try clear p2
                try clear c3
                try clear p3
                try clear q3
                try clear hx3
                try clear c4
                try clear c5
                try clear c6
                try clear p6
                try clear c7
                try clear c7b0
                try clear c7b1
                try clear c8
                try clear c9
                try clear c10
                try clear c10b0
                try clear c10b1
                try clear c11
                try clear c13
                try clear c15
                try clear c16
                try clear c18
                try clear c18b0
                try clear c19
                try clear c19b0
                try clear c20
                try clear c20b0
                try clear c22
                try clear c23
                try clear c24
                try clear c26
                try clear c28
                try clear c29
                try clear c32
                try clear c33
                try clear c34
                try clear c36
                try clear p37
                try clear q37
                try clear hx37
                try clear c47
                try clear c48
                try clear c51
                try clear c52
                try clear c53
                try clear c55
                try clear p64
                try clear c66
                try clear c67
                try clear c70
                try clear c71
                try clear c72
                try clear c74
                try clear c80
                try clear c81
                try clear c84
                try clear c85
                try clear c86
                try clear c88
                try clear hcz12_0
                try clear hcz12_1
                try clear hcz12_2
                try clear hcz12_3
                try clear hcz12_4
                try clear hcz12_5
                try clear hcz12_6
                try clear hcz12_7
                try clear hcz14_0
                try clear hcz14_1
                try clear hcz14_2
                try clear hcz14_3
                try clear hcz14_4
                try clear hcz14_5
                try clear hcz14_6
                try clear hcz14_7
                try clear hcz17_0
                try clear hcz17_1
                try clear hcz17_2
                try clear hcz17_3
                try clear hcz17_4
                try clear hcz17_5
                try clear hcz17_6
                try clear hcz17_7
                try clear hcz30_0
                try clear hcz30_1
                try clear hcz30_2
                try clear hcz35_0
                try clear hcz35_1
                try clear hcz37_0
                try clear hcz37_1
                try clear hcz38_0
                try clear hcz38_1
                try clear hcz38_2
                try clear hcz38_3
                try clear hcz38_4
                try clear hcz38_5
                try clear hcz38_6
                try clear hcz38_7
                try clear hcz39_0
                try clear hcz39_1
                try clear hcz39_2
                try clear hcz41_0
                try clear hcz41_1
                try clear hcz42_0
                try clear hcz42_1
                try clear hcz42_2
                try clear hcz42_3
                try clear hcz42_4
                try clear hcz42_5
                try clear hcz42_6
                try clear hcz42_7
                try clear hcz43_0
                try clear hcz43_1
                try clear hcz43_2
                try clear hcz44_0
                try clear hcz44_1
                try clear hcz49_0
                try clear hcz49_1
                try clear hcz49_2
                try clear hcz54_0
                try clear hcz54_1
                try clear hcz56_0
                try clear hcz56_1
                try clear hcz57_0
                try clear hcz57_1
                try clear hcz57_2
                try clear hcz57_3
                try clear hcz57_4
                try clear hcz57_5
                try clear hcz57_6
                try clear hcz57_7
                try clear hcz58_0
                try clear hcz58_1
                try clear hcz58_2
                try clear hcz60_0
                try clear hcz60_1
                try clear hcz61_0
                try clear hcz61_1
                try clear hcz61_2
                try clear hcz61_3
                try clear hcz61_4
                try clear hcz61_5
                try clear hcz61_6
                try clear hcz61_7
                try clear hcz62_0
                try clear hcz62_1
                try clear hcz62_2
                try clear hcz63_0
                try clear hcz63_1
                try clear hcz68_0
                try clear hcz68_1
                try clear hcz68_2
                try clear hcz73_0
                try clear hcz73_1
                try clear hcz75_0
                try clear hcz75_1
                try clear hcz76_0
                try clear hcz76_1
                try clear hcz76_2
                try clear hcz76_3
                try clear hcz76_4
                try clear hcz76_5
                try clear hcz76_6
                try clear hcz76_7
                try clear hcz77_0
                try clear hcz77_1
                try clear hcz77_2
                try clear hcz82_0
                try clear hcz82_1
                try clear hcz82_2
                try clear hcz87_0
                try clear hcz87_1
                try clear hcz89_0
                try clear hcz89_1
                try clear hcz89_2
                try clear hcz89_3
                try clear hcz89_4
                try clear hcz89_5
                try clear hcz89_6
                try clear hcz89_7
                try clear hcz9_0
                try clear hcz9_1
                try clear hcz9_2
                try clear hcz9_3
                try clear hcz9_4
                try clear hcz9_5
                try clear hcz9_6
                try clear hcz9_7
                try clear hfz12_0
                try clear hfz12_1
                try clear hfz12_2
                try clear hfz12_3
                try clear hfz12_4
                try clear hfz12_5
                try clear hfz12_6
                try clear hfz12_7
                try clear hfz14_0
                try clear hfz14_1
                try clear hfz14_2
                try clear hfz14_3
                try clear hfz14_4
                try clear hfz14_5
                try clear hfz14_6
                try clear hfz14_7
                try clear hfz17_0
                try clear hfz17_1
                try clear hfz17_2
                try clear hfz17_3
                try clear hfz17_4
                try clear hfz17_5
                try clear hfz17_6
                try clear hfz17_7
                try clear hfz30_0
                try clear hfz30_1
                try clear hfz30_2
                try clear hfz35_0
                try clear hfz35_1
                try clear hfz37_0
                try clear hfz37_1
                try clear hfz38_0
                try clear hfz38_1
                try clear hfz38_2
                try clear hfz38_3
                try clear hfz38_4
                try clear hfz38_5
                try clear hfz38_6
                try clear hfz38_7
                try clear hfz39_0
                try clear hfz39_1
                try clear hfz39_2
                try clear hfz41_0
                try clear hfz41_1
                try clear hfz42_0
                try clear hfz42_1
                try clear hfz42_2
                try clear hfz42_3
                try clear hfz42_4
                try clear hfz42_5
                try clear hfz42_6
                try clear hfz42_7
                try clear hfz43_0
                try clear hfz43_1
                try clear hfz43_2
                try clear hfz44_0
                try clear hfz44_1
                try clear hfz49_0
                try clear hfz49_1
                try clear hfz49_2
                try clear hfz54_0
                try clear hfz54_1
                try clear hfz56_0
                try clear hfz56_1
                try clear hfz57_0
                try clear hfz57_1
                try clear hfz57_2
                try clear hfz57_3
                try clear hfz57_4
                try clear hfz57_5
                try clear hfz57_6
                try clear hfz57_7
                try clear hfz58_0
                try clear hfz58_1
                try clear hfz58_2
                try clear hfz60_0
                try clear hfz60_1
                try clear hfz61_0
                try clear hfz61_1
                try clear hfz61_2
                try clear hfz61_3
                try clear hfz61_4
                try clear hfz61_5
                try clear hfz61_6
                try clear hfz61_7
                try clear hfz62_0
                try clear hfz62_1
                try clear hfz62_2
                try clear hfz63_0
                try clear hfz63_1
                try clear hfz68_0
                try clear hfz68_1
                try clear hfz68_2
                try clear hfz73_0
                try clear hfz73_1
                try clear hfz75_0
                try clear hfz75_1
                try clear hfz76_0
                try clear hfz76_1
                try clear hfz76_2
                try clear hfz76_3
                try clear hfz76_4
                try clear hfz76_5
                try clear hfz76_6
                try clear hfz76_7
                try clear hfz77_0
                try clear hfz77_1
                try clear hfz77_2
                try clear hfz82_0
                try clear hfz82_1
                try clear hfz82_2
                try clear hfz87_0
                try clear hfz87_1
                try clear hfz89_0
                try clear hfz89_1
                try clear hfz89_2
                try clear hfz89_3
                try clear hfz89_4
                try clear hfz89_5
                try clear hfz89_6
                try clear hfz89_7
                try clear hfz9_0
                try clear hfz9_1
                try clear hfz9_2
                try clear hfz9_3
                try clear hfz9_4
                try clear hfz9_5
                try clear hfz9_6
                try clear hfz9_7
                try clear hx374_0
                try clear hx374_1
                try clear hx374_2
                try clear p2
                try clear p374
                try clear q374
                obtain ⟨x74_3, rfl, HA, HK3, BK372, BK373, HB⟩ := hrel
                cases gk with
                | zero => exact absurd HA.out (by simp [impl_codeOk.l1])
                | succ k3 =>
                  have H := HA.out
                  clear HA
                  simp only [impl_codeOk.l1] at H
                  by_cases c90 : x74_3 < (l1_6.length : Int)
                  · rw [if_pos c90] at H
                    have c90b0 : decide (x74_3 < (l1_6.length : Int)) = true := decide_eq_true c90
                    clear c90
                    by_cases c91 : 0 ≤ x74_3
                    · rw [if_pos c91] at H
                      have c91b0 : decide (0 ≤ x74_3) = true := decide_eq_true c91
                      clear c91
                      by_cases c92 : x74_3 < (l1_6.length : Int)
                      · rw [if_pos c92] at H
                        have c92b0 : decide (x74_3 < (l1_6.length : Int)) = true := decide_eq_true c92
                        clear c92
                        replace H := Option.bind_eq_some_iff.mp H
                        obtain ⟨t384, A930, H⟩ := H
                        replace H : (if t384 = true then (impl_codeOk.l1 k3 l1_6 (l1_6.length : Int) (wrap64 (x74_3 + 1)) l0_0 l0_1 a1_0 a1_1 l1_2 a1_3 a1_4 l1_5 l1_6 l1_7) else (some false)) = some r := H
                        have A93 := Aside0.mk A930
                        clear A930
                        by_cases c94 : t384 = true
                        · subst c94
                          have H1 : (impl_codeOk.l1 k3 l1_6 (l1_6.length : Int) (wrap64 (x74_3 + 1)) l0_0 l0_1 a1_0 a1_1 l1_2 a1_3 a1_4 l1_5 l1_6 l1_7) = some r := by rw [if_pos rfl] at H; exact H
                          clear H
                          have H := H1
                          clear H1
                          have H' := Aside0.mk H
                          clear H
                          have p382 : 0 ≤ (x74_3 : Int) := of_decide_eq_true (by first | (with_reducible assumption) | assumption)
                          have q382 : x74_3 < (l1_6.length : Int) := of_decide_eq_true (by first | (with_reducible assumption) | assumption)
                          obtain ⟨ad382, A382_1, c382_1, A382_2, c382_2, e382, hx382_0, hx382_1, hx382_2, hl382_1, hi382_1, hl382_2, hi382_2⟩ := at_T70 HR1_6.out x74_3 p382 q382
                          cases e382
                          replace hx382_0 := (HB.out.cell (World.block_lt_of_cell? w _ hx382_0)).trans hx382_0
                          replace hx382_1 := (HB.out.cell (World.block_lt_of_cell? w _ hx382_1)).trans hx382_1
                          replace hx382_2 := (HB.out.cell (World.block_lt_of_cell? w _ hx382_2)).trans hx382_2
                          have HR382_1 := Aside0.mk hi382_1
                          have HC382_1 := Aside0.mk hl382_1
                          clear hi382_1 hl382_1
                          have HR382_2 := Aside0.mk hi382_2
                          have HC382_2 := Aside0.mk hl382_2
                          clear hi382_2 hl382_2
                          replace p382 := eq_true p382
                          replace q382 := eq_true q382
                          go_wp2_with (first | ((with_reducible refine gate_dst (N := 12) rfl ?_); (try (refine gate_guard (by rfl) ?_; dsimp only)); refine box_event ?hg (N := 12) ?hd (cs := #[.bool false, .slice none 0 0, .slice none 0 0]) (t := 70) ?hr ?_; (case hd => rfl); (case hg => rfl); (case hr => first | (go_simp; done) | (go_simp; rfl)); intro gb383 hg w95 hbox hb; have n0_ := Aside0.mk (blk_below (g := gb372) (o := .cells #[.slice A0_0 l0_0.length c0_0, .slice A0_1 l0_1.length c0_1] 31 (0, 0)) (by (with_reducible repeat (first | refine blk_drewN ?_ _ | refine blk_drew ?_ | refine blk_alloc ?_ _)); exact BK372.out) hb); have n1_ := Aside0.mk (blk_below (g := gb373) (o := .cells #[.int .i64 a1_0, .int .i64 a1_1, .slice A1_2 l1_2.length c1_2, .int .i64 a1_3, .int .i64 a1_4, .slice A1_5 l1_5.length c1_5, .slice (some ad382) l1_6.length c1_6, .slice A1_7 l1_7.length c1_7] 46 (0, 0)) (by (with_reducible repeat (first | refine blk_drewN ?_ _ | refine blk_drew ?_ | refine blk_alloc ?_ _)); exact BK373.out) hb); have n2_ := Aside0.mk (below_step (by repeat (first | (with_reducible first | exact HB.out | apply below_alloc | apply pw_below_drewN | apply below_drew1 | refine below_set ?_ GE372.out | refine below_set ?_ GE373.out) | exact HB.out)) hb); have n3_ := Aside0.mk (hbox); have n4_ := Aside0.mk ((by rw [hg]; exact (below_size (by repeat (first | (with_reducible first | exact HB.out | apply below_alloc | apply pw_below_drewN | apply below_drew1 | refine below_set ?_ GE372.out | refine below_set ?_ GE373.out) | exact HB.out))) : w.heap.size ≤ gb383)); have n5_ := Aside0.mk ((by rw [hg]; exact (below_size (by repeat (first | (with_reducible first | exact HB.out | apply below_alloc | apply pw_below_drewN | apply below_drew1 | refine below_set ?_ GE372.out | refine below_set ?_ GE373.out) | exact HB.out))) : w.heap.size ≤ gb383)); have n6_ := Aside0.mk ((by rw [hg]; exact Nat.ne_of_lt (blk_lt (g := gb372) (o := .cells #[.slice A0_0 l0_0.length c0_0, .slice A0_1 l0_1.length c0_1] 31 (0, 0)) (by (with_reducible repeat (first | refine blk_drewN ?_ _ | refine blk_drew ?_ | refine blk_alloc ?_ _)); exact BK372.out)) : gb372 ≠ gb383)); have n7_ := Aside0.mk ((by rw [hg]; exact Nat.ne_of_gt (blk_lt (g := gb372) (o := .cells #[.slice A0_0 l0_0.length c0_0, .slice A0_1 l0_1.length c0_1] 31 (0, 0)) (by (with_reducible repeat (first | refine blk_drewN ?_ _ | refine blk_drew ?_ | refine blk_alloc ?_ _)); exact BK372.out)) : gb383 ≠ gb372)); have n8_ := Aside0.mk ((by rw [hg]; exact Nat.ne_of_lt (blk_lt (g := gb373) (o := .cells #[.int .i64 a1_0, .int .i64 a1_1, .slice A1_2 l1_2.length c1_2, .int .i64 a1_3, .int .i64 a1_4, .slice A1_5 l1_5.length c1_5, .slice (some ad382) l1_6.length c1_6, .slice A1_7 l1_7.length c1_7] 46 (0, 0)) (by (with_reducible repeat (first | refine blk_drewN ?_ _ | refine blk_drew ?_ | refine blk_alloc ?_ _)); exact BK373.out)) : gb373 ≠ gb383)); have n9_ := Aside0.mk ((by rw [hg]; exact Nat.ne_of_gt (blk_lt (g := gb373) (o := .cells #[.int .i64 a1_0, .int .i64 a1_1, .slice A1_2 l1_2.length c1_2, .int .i64 a1_3, .int .i64 a1_4, .slice A1_5 l1_5.length c1_5, .slice (some ad382) l1_6.length c1_6, .slice A1_7 l1_7.length c1_7] 46 (0, 0)) (by (with_reducible repeat (first | refine blk_drewN ?_ _ | refine blk_drew ?_ | refine blk_alloc ?_ _)); exact BK373.out)) : gb383 ≠ gb373)); clear BK372; clear BK373; clear HB; have BK372 := n0_; have BK373 := n1_; have HB := n2_; have BK383 := n3_; have GW383 := n4_; have GE383 := n5_; have NB372_383 := n6_; have NB383_372 := n7_; have NB373_383 := n8_; have NB383_373 := n9_; clear n0_ n1_ n2_ n3_ n4_ n5_ n6_ n7_ n8_ n9_; clear hb hbox hg; have hnb96 := NB383_372.out; have hnc96 := NB372_383.out; have hnb97 := NB383_373.out; have hnc97 := NB373_383.out; have hcz98_0 : w95.cell? ⟨gb383, 0, none⟩ = some (.bool false) := (blk_cell BK383.out 0).trans rfl; have hcz98_1 : w95.cell? ⟨gb383, 1, none⟩ = some (.slice none 0 0) := (blk_cell BK383.out 1).trans rfl; have hcz98_2 : w95.cell? ⟨gb383, 2, none⟩ = some (.slice none 0 0) := (blk_cell BK383.out 2).trans rfl; have hfz98_0 := blk_frozen BK383.out 0; have hfz98_1 := blk_frozen BK383.out 1; have hfz98_2 := blk_frozen BK383.out 2; have hnb99 := NB372_373.out; have hnc99 := NB373_372.out; have hcz100_0 : w95.cell? ⟨gb372, 0, none⟩ = some (.slice A0_0 l0_0.length c0_0) := (blk_cell BK372.out 0).trans rfl; have hcz100_1 : w95.cell? ⟨gb372, 1, none⟩ = some (.slice A0_1 l0_1.length c0_1) := (blk_cell BK372.out 1).trans rfl; have hfz100_0 := blk_frozen BK372.out 0; have hfz100_1 := blk_frozen BK372.out 1; have hcz101_0 : w95.cell? ⟨gb373, 0, none⟩ = some (.int .i64 a1_0) := (blk_cell BK373.out 0).trans rfl; have hcz101_1 : w95.cell? ⟨gb373, 1, none⟩ = some (.int .i64 a1_1) := (blk_cell BK373.out 1).trans rfl; have hcz101_2 : w95.cell? ⟨gb373, 2, none⟩ = some (.slice A1_2 l1_2.length c1_2) := (blk_cell BK373.out 2).trans rfl; have hcz101_3 : w95.cell? ⟨gb373, 3, none⟩ = some (.int .i64 a1_3) := (blk_cell BK373.out 3).trans rfl; have hcz101_4 : w95.cell? ⟨gb373, 4, none⟩ = some (.int .i64 a1_4) := (blk_cell BK373.out 4).trans rfl; have hcz101_5 : w95.cell? ⟨gb373, 5, none⟩ = some (.slice A1_5 l1_5.length c1_5) := (blk_cell BK373.out 5).trans rfl; have hcz101_6 : w95.cell? ⟨gb373, 6, none⟩ = some (.slice (some ad382) l1_6.length c1_6) := (blk_cell BK373.out 6).trans rfl; have hcz101_7 : w95.cell? ⟨gb373, 7, none⟩ = some (.slice A1_7 l1_7.length c1_7) := (blk_cell BK373.out 7).trans rfl; have hfz101_0 := blk_frozen BK373.out 0; have hfz101_1 := blk_frozen BK373.out 1; have hfz101_2 := blk_frozen BK373.out 2; have hfz101_3 := blk_frozen BK373.out 3; have hfz101_4 := blk_frozen BK373.out 4; have hfz101_5 := blk_frozen BK373.out 5; have hfz101_6 := blk_frozen BK373.out 6; have hfz101_7 := blk_frozen BK373.out 7) | ((with_reducible refine gate_callee (f := 45) rfl ?_); refine goesL_ (some 83) rfl rfl Try.func45 (by kernel_rfl) rfl #[.slice A0_0 l0_0.length c0_0, .int .i64 a1_4, .agg #[.bool ((rd_T70 l1_6 x74_3).f0), .slice A382_1 ((rd_T70 l1_6 x74_3).f1).length c382_1, .slice A382_2 ((rd_T70 l1_6 x74_3).f2).length c382_2]] rfl (by (try simp only [List.map_toArray, List.map_cons, List.map_nil]); first | done | rfl | (simp only [List.length_drop, List.length_take]; rfl)) ?_; (with_reducible refine (impl_shapeOk.calls k3 _ _ l0_0 a1_4 ((rd_T70 l1_6 x74_3).f0) _ _ ((rd_T70 l1_6 x74_3).f1) _ _ ((rd_T70 l1_6 x74_3).f2) true _ ?side1 ?side2 ?side3 ?side4 ?side5 ?side6 A93.out).mono ?_); (case side1 => exact Kd.C_below HR0_0.out (by repeat (first | (with_reducible first | exact HB.out | apply below_alloc | apply pw_below_drewN | apply below_drew1 | refine below_set ?_ GE372.out | refine below_set ?_ GE373.out | refine below_set ?_ GE383.out) | exact HB.out))); (case side2 => exact HC0_0.out); (case side3 => exact Kd.C_below HR382_1.out (by repeat (first | (with_reducible first | exact HB.out | apply below_alloc | apply pw_below_drewN | apply below_drew1 | refine below_set ?_ GE372.out | refine below_set ?_ GE373.out | refine below_set ?_ GE383.out) | exact HB.out))); (case side4 => exact HC382_1.out); (case side5 => exact Kd.C_below HR382_2.out (by repeat (first | (with_reducible first | exact HB.out | apply below_alloc | apply pw_below_drewN | apply below_drew1 | refine below_set ?_ GE372.out | refine below_set ?_ GE373.out | refine below_set ?_ GE383.out) | exact HB.out))); (case side6 => exact HC382_2.out); rintro e w102 ⟨rfl, hb⟩; refine ⟨_, rfl, ?_⟩; have n0_ := Aside0.mk (blk_below (g := gb372) (o := .cells #[.slice A0_0 l0_0.length c0_0, .slice A0_1 l0_1.length c0_1] 31 (0, 0)) (by (with_reducible repeat (first | refine blk_drewN ?_ _ | refine blk_drew ?_ | refine blk_alloc ?_ _)); refine blk_far ?_ NB372_383.out _; (with_reducible repeat (first | refine blk_drewN ?_ _ | refine blk_drew ?_ | refine blk_alloc ?_ _)); refine blk_far ?_ NB372_383.out _; (with_reducible repeat (first | refine blk_drewN ?_ _ | refine blk_drew ?_ | refine blk_alloc ?_ _)); refine blk_far ?_ NB372_383.out _; (with_reducible repeat (first | refine blk_drewN ?_ _ | refine blk_drew ?_ | refine blk_alloc ?_ _)); exact BK372.out) hb); have n1_ := Aside0.mk (blk_below (g := gb373) (o := .cells #[.int .i64 a1_0, .int .i64 a1_1, .slice A1_2 l1_2.length c1_2, .int .i64 a1_3, .int .i64 a1_4, .slice A1_5 l1_5.length c1_5, .slice (some ad382) l1_6.length c1_6, .slice A1_7 l1_7.length c1_7] 46 (0, 0)) (by (with_reducible repeat (first | refine blk_drewN ?_ _ | refine blk_drew ?_ | refine blk_alloc ?_ _)); refine blk_far ?_ NB373_383.out _; (with_reducible repeat (first | refine blk_drewN ?_ _ | refine blk_drew ?_ | refine blk_alloc ?_ _)); refine blk_far ?_ NB373_383.out _; (with_reducible repeat (first | refine blk_drewN ?_ _ | refine blk_drew ?_ | refine blk_alloc ?_ _)); refine blk_far ?_ NB373_383.out _; (with_reducible repeat (first | refine blk_drewN ?_ _ | refine blk_drew ?_ | refine blk_alloc ?_ _)); exact BK373.out) hb); have n2_ := Aside0.mk (blk_below (g := gb383) (o := .cells #[.bool ((rd_T70 l1_6 x74_3).f0), .slice A382_1 ((rd_T70 l1_6 x74_3).f1).length c382_1, .slice A382_2 ((rd_T70 l1_6 x74_3).f2).length c382_2] 70 (0, 0)) (by (with_reducible repeat (first | refine blk_drewN ?_ _ | refine blk_drew ?_ | refine blk_alloc ?_ _)); refine blk_put (cs := #[.bool ((rd_T70 l1_6 x74_3).f0), .slice A382_1 ((rd_T70 l1_6 x74_3).f1).length c382_1, .slice none 0 0]) ?_ 2 _ rfl; (with_reducible repeat (first | refine blk_drewN ?_ _ | refine blk_drew ?_ | refine blk_alloc ?_ _)); refine blk_put (cs := #[.bool ((rd_T70 l1_6 x74_3).f0), .slice none 0 0, .slice none 0 0]) ?_ 1 _ rfl; (with_reducible repeat (first | refine blk_drewN ?_ _ | refine blk_drew ?_ | refine blk_alloc ?_ _)); refine blk_put (cs := #[.bool false, .slice none 0 0, .slice none 0 0]) ?_ 0 _ rfl; (with_reducible repeat (first | refine blk_drewN ?_ _ | refine blk_drew ?_ | refine blk_alloc ?_ _)); exact BK383.out) hb); have n3_ := Aside0.mk (below_step (by repeat (first | (with_reducible first | exact HB.out | apply below_alloc | apply pw_below_drewN | apply below_drew1 | refine below_set ?_ GE372.out | refine below_set ?_ GE373.out | refine below_set ?_ GE383.out) | exact HB.out)) hb); clear BK372; clear BK373; clear BK383; clear HB; have BK372 := n0_; have BK373 := n1_; have BK383 := n2_; have HB := n3_; clear n0_ n1_ n2_ n3_; (try clear hb); (try clear hb2); (try clear hk); (try clear hi)))
                          go_roundg k3
                          case measure => have := HJ3.out; have := HK2.out; have := HK3.out; omega
                          case rel => exact ⟨(wrap64 (x74_3 + 1)), (by first | rfl | (simp; done) | (simp [*]; done)), H', ⟨by have := HJ3.out; have := HK2.out; have := HK3.out; omega⟩, ⟨by (with_reducible repeat (first | refine blk_drewN ?_ _ | refine blk_drew ?_ | refine blk_alloc ?_ _)); exact BK372.out⟩, ⟨by (with_reducible repeat (first | refine blk_drewN ?_ _ | refine blk_drew ?_ | refine blk_alloc ?_ _)); exact BK373.out⟩, ⟨by repeat (first | (with_reducible first | exact HB.out | apply below_alloc | apply pw_below_drewN | apply below_drew1 | refine below_set ?_ GE372.out | refine below_set ?_ GE373.out | refine below_set ?_ GE383.out) | exact HB.out)⟩⟩
                        · replace c94 := Bool.eq_false_iff.mpr c94
                          subst c94
                          have H1 : (some false) = some r := by rw [if_neg (show ¬ (false = true) by decide)] at H; exact H
                          clear H
                          have H := H1
                          clear H1
                          obtain rfl := Option.some.inj H
                          simp only [Option.some.injEq, Prod.mk.injEq] at H
                          obtain ⟨rfl⟩ := H
                          have p382 : 0 ≤ (x74_3 : Int) := of_decide_eq_true (by first | (with_reducible assumption) | assumption)
                          have q382 : x74_3 < (l1_6.length : Int) := of_decide_eq_true (by first | (with_reducible assumption) | assumption)
                          obtain ⟨ad382, A382_1, c382_1, A382_2, c382_2, e382, hx382_0, hx382_1, hx382_2, hl382_1, hi382_1, hl382_2, hi382_2⟩ := at_T70 HR1_6.out x74_3 p382 q382
                          cases e382
                          replace hx382_0 := (HB.out.cell (World.block_lt_of_cell? w _ hx382_0)).trans hx382_0
                          replace hx382_1 := (HB.out.cell (World.block_lt_of_cell? w _ hx382_1)).trans hx382_1
                          replace hx382_2 := (HB.out.cell (World.block_lt_of_cell? w _ hx382_2)).trans hx382_2
                          have HR382_1 := Aside0.mk hi382_1
                          have HC382_1 := Aside0.mk hl382_1
                          clear hi382_1 hl382_1
                          have HR382_2 := Aside0.mk hi382_2
                          have HC382_2 := Aside0.mk hl382_2
                          clear hi382_2 hl382_2
                          replace p382 := eq_true p382
                          replace q382 := eq_true q382
                          go_wp2_with (first | ((with_reducible refine gate_dst (N := 12) rfl ?_); (try (refine gate_guard (by rfl) ?_; dsimp only)); refine box_event ?hg (N := 12) ?hd (cs := #[.bool false, .slice none 0 0, .slice none 0 0]) (t := 70) ?hr ?_; (case hd => rfl); (case hg => rfl); (case hr => first | (go_simp; done) | (go_simp; rfl)); intro gb383 hg w103 hbox hb; have n0_ := Aside0.mk (blk_below (g := gb372) (o := .cells #[.slice A0_0 l0_0.length c0_0, .slice A0_1 l0_1.length c0_1] 31 (0, 0)) (by (with_reducible repeat (first | refine blk_drewN ?_ _ | refine blk_drew ?_ | refine blk_alloc ?_ _)); exact BK372.out) hb); have n1_ := Aside0.mk (blk_below (g := gb373) (o := .cells #[.int .i64 a1_0, .int .i64 a1_1, .slice A1_2 l1_2.length c1_2, .int .i64 a1_3, .int .i64 a1_4, .slice A1_5 l1_5.length c1_5, .slice (some ad382) l1_6.length c1_6, .slice A1_7 l1_7.length c1_7] 46 (0, 0)) (by (with_reducible repeat (first | refine blk_drewN ?_ _ | refine blk_drew ?_ | refine blk_alloc ?_ _)); exact BK373.out) hb); have n2_ := Aside0.mk (below_step (by repeat (first | (with_reducible first | exact HB.out | apply below_alloc | apply pw_below_drewN | apply below_drew1 | refine below_set ?_ GE372.out | refine below_set ?_ GE373.out) | exact HB.out)) hb); have n3_ := Aside0.mk (hbox); have n4_ := Aside0.mk ((by rw [hg]; exact (below_size (by repeat (first | (with_reducible first | exact HB.out | apply below_alloc | apply pw_below_drewN | apply below_drew1 | refine below_set ?_ GE372.out | refine below_set ?_ GE373.out) | exact HB.out))) : w.heap.size ≤ gb383)); have n5_ := Aside0.mk ((by rw [hg]; exact (below_size (by repeat (first | (with_reducible first | exact HB.out | apply below_alloc | apply pw_below_drewN | apply below_drew1 | refine below_set ?_ GE372.out | refine below_set ?_ GE373.out) | exact HB.out))) : w.heap.size ≤ gb383)); have n6_ := Aside0.mk ((by rw [hg]; exact Nat.ne_of_lt (blk_lt (g := gb372) (o := .cells #[.slice A0_0 l0_0.length c0_0, .slice A0_1 l0_1.length c0_1] 31 (0, 0)) (by (with_reducible repeat (first | refine blk_drewN ?_ _ | refine blk_drew ?_ | refine blk_alloc ?_ _)); exact BK372.out)) : gb372 ≠ gb383)); have n7_ := Aside0.mk ((by rw [hg]; exact Nat.ne_of_gt (blk_lt (g := gb372) (o := .cells #[.slice A0_0 l0_0.length c0_0, .slice A0_1 l0_1.length c0_1] 31 (0, 0)) (by (with_reducible repeat (first | refine blk_drewN ?_ _ | refine blk_drew ?_ | refine blk_alloc ?_ _)); exact BK372.out)) : gb383 ≠ gb372)); have n8_ := Aside0.mk ((by rw [hg]; exact Nat.ne_of_lt (blk_lt (g := gb373) (o := .cells #[.int .i64 a1_0, .int .i64 a1_1, .slice A1_2 l1_2.length c1_2, .int .i64 a1_3, .int .i64 a1_4, .slice A1_5 l1_5.length c1_5, .slice (some ad382) l1_6.length c1_6, .slice A1_7 l1_7.length c1_7] 46 (0, 0)) (by (with_reducible repeat (first | refine blk_drewN ?_ _ | refine blk_drew ?_ | refine blk_alloc ?_ _)); exact BK373.out)) : gb373 ≠ gb383)); have n9_ := Aside0.mk ((by rw [hg]; exact Nat.ne_of_gt (blk_lt (g := gb373) (o := .cells #[.int .i64 a1_0, .int .i64 a1_1, .slice A1_2 l1_2.length c1_2, .int .i64 a1_3, .int .i64 a1_4, .slice A1_5 l1_5.length c1_5, .slice (some ad382) l1_6.length c1_6, .slice A1_7 l1_7.length c1_7] 46 (0, 0)) (by (with_reducible repeat (first | refine blk_drewN ?_ _ | refine blk_drew ?_ | refine blk_alloc ?_ _)); exact BK373.out)) : gb383 ≠ gb373)); clear BK372; clear BK373; clear HB; have BK372 := n0_; have BK373 := n1_; have HB := n2_; have BK383 := n3_; have GW383 := n4_; have GE383 := n5_; have NB372_383 := n6_; have NB383_372 := n7_; have NB373_383 := n8_; have NB383_373 := n9_; clear n0_ n1_ n2_ n3_ n4_ n5_ n6_ n7_ n8_ n9_; clear hb hbox hg; have hnb104 := NB383_372.out; have hnc104 := NB372_383.out; have hnb105 := NB383_373.out; have hnc105 := NB373_383.out; have hcz106_0 : w103.cell? ⟨gb383, 0, none⟩ = some (.bool false) := (blk_cell BK383.out 0).trans rfl; have hcz106_1 : w103.cell? ⟨gb383, 1, none⟩ = some (.slice none 0 0) := (blk_cell BK383.out 1).trans rfl; have hcz106_2 : w103.cell? ⟨gb383, 2, none⟩ = some (.slice none 0 0) := (blk_cell BK383.out 2).trans rfl; have hfz106_0 := blk_frozen BK383.out 0; have hfz106_1 := blk_frozen BK383.out 1; have hfz106_2 := blk_frozen BK383.out 2; have hnb107 := NB372_373.out; have hnc107 := NB373_372.out; have hcz108_0 : w103.cell? ⟨gb372, 0, none⟩ = some (.slice A0_0 l0_0.length c0_0) := (blk_cell BK372.out 0).trans rfl; have hcz108_1 : w103.cell? ⟨gb372, 1, none⟩ = some (.slice A0_1 l0_1.length c0_1) := (blk_cell BK372.out 1).trans rfl; have hfz108_0 := blk_frozen BK372.out 0; have hfz108_1 := blk_frozen BK372.out 1; have hcz109_0 : w103.cell? ⟨gb373, 0, none⟩ = some (.int .i64 a1_0) := (blk_cell BK373.out 0).trans rfl; have hcz109_1 : w103.cell? ⟨gb373, 1, none⟩ = some (.int .i64 a1_1) := (blk_cell BK373.out 1).trans rfl; have hcz109_2 : w103.cell? ⟨gb373, 2, none⟩ = some (.slice A1_2 l1_2.length c1_2) := (blk_cell BK373.out 2).trans rfl; have hcz109_3 : w103.cell? ⟨gb373, 3, none⟩ = some (.int .i64 a1_3) := (blk_cell BK373.out 3).trans rfl; have hcz109_4 : w103.cell? ⟨gb373, 4, none⟩ = some (.int .i64 a1_4) := (blk_cell BK373.out 4).trans rfl; have hcz109_5 : w103.cell? ⟨gb373, 5, none⟩ = some (.slice A1_5 l1_5.length c1_5) := (blk_cell BK373.out 5).trans rfl; have hcz109_6 : w103.cell? ⟨gb373, 6, none⟩ = some (.slice (some ad382) l1_6.length c1_6) := (blk_cell BK373.out 6).trans rfl; have hcz109_7 : w103.cell? ⟨gb373, 7, none⟩ = some (.slice A1_7 l1_7.length c1_7) := (blk_cell BK373.out 7).trans rfl; have hfz109_0 := blk_frozen BK373.out 0; have hfz109_1 := blk_frozen BK373.out 1; have hfz109_2 := blk_frozen BK373.out 2; have hfz109_3 := blk_frozen BK373.out 3; have hfz109_4 := blk_frozen BK373.out 4; have hfz109_5 := blk_frozen BK373.out 5; have hfz109_6 := blk_frozen BK373.out 6; have hfz109_7 := blk_frozen BK373.out 7) | ((with_reducible refine gate_callee (f := 45) rfl ?_); refine goesL_ (some 83) rfl rfl Try.func45 (by kernel_rfl) rfl #[.slice A0_0 l0_0.length c0_0, .int .i64 a1_4, .agg #[.bool ((rd_T70 l1_6 x74_3).f0), .slice A382_1 ((rd_T70 l1_6 x74_3).f1).length c382_1, .slice A382_2 ((rd_T70 l1_6 x74_3).f2).length c382_2]] rfl (by (try simp only [List.map_toArray, List.map_cons, List.map_nil]); first | done | rfl | (simp only [List.length_drop, List.length_take]; rfl)) ?_; (with_reducible refine (impl_shapeOk.calls k3 _ _ l0_0 a1_4 ((rd_T70 l1_6 x74_3).f0) _ _ ((rd_T70 l1_6 x74_3).f1) _ _ ((rd_T70 l1_6 x74_3).f2) false _ ?side1 ?side2 ?side3 ?side4 ?side5 ?side6 A93.out).mono ?_); (case side1 => exact Kd.C_below HR0_0.out (by repeat (first | (with_reducible first | exact HB.out | apply below_alloc | apply pw_below_drewN | apply below_drew1 | refine below_set ?_ GE372.out | refine below_set ?_ GE373.out | refine below_set ?_ GE383.out) | exact HB.out))); (case side2 => exact HC0_0.out); (case side3 => exact Kd.C_below HR382_1.out (by repeat (first | (with_reducible first | exact HB.out | apply below_alloc | apply pw_below_drewN | apply below_drew1 | refine below_set ?_ GE372.out | refine below_set ?_ GE373.out | refine below_set ?_ GE383.out) | exact HB.out))); (case side4 => exact HC382_1.out); (case side5 => exact Kd.C_below HR382_2.out (by repeat (first | (with_reducible first | exact HB.out | apply below_alloc | apply pw_below_drewN | apply below_drew1 | refine below_set ?_ GE372.out | refine below_set ?_ GE373.out | refine below_set ?_ GE383.out) | exact HB.out))); (case side6 => exact HC382_2.out); rintro e w110 ⟨rfl, hb⟩; refine ⟨_, rfl, ?_⟩; have n0_ := Aside0.mk (blk_below (g := gb372) (o := .cells #[.slice A0_0 l0_0.length c0_0, .slice A0_1 l0_1.length c0_1] 31 (0, 0)) (by (with_reducible repeat (first | refine blk_drewN ?_ _ | refine blk_drew ?_ | refine blk_alloc ?_ _)); refine blk_far ?_ NB372_383.out _; (with_reducible repeat (first | refine blk_drewN ?_ _ | refine blk_drew ?_ | refine blk_alloc ?_ _)); refine blk_far ?_ NB372_383.out _; (with_reducible repeat (first | refine blk_drewN ?_ _ | refine blk_drew ?_ | refine blk_alloc ?_ _)); refine blk_far ?_ NB372_383.out _; (with_reducible repeat (first | refine blk_drewN ?_ _ | refine blk_drew ?_ | refine blk_alloc ?_ _)); exact BK372.out) hb); have n1_ := Aside0.mk (blk_below (g := gb373) (o := .cells #[.int .i64 a1_0, .int .i64 a1_1, .slice A1_2 l1_2.length c1_2, .int .i64 a1_3, .int .i64 a1_4, .slice A1_5 l1_5.length c1_5, .slice (some ad382) l1_6.length c1_6, .slice A1_7 l1_7.length c1_7] 46 (0, 0)) (by (with_reducible repeat (first | refine blk_drewN ?_ _ | refine blk_drew ?_ | refine blk_alloc ?_ _)); refine blk_far ?_ NB373_383.out _; (with_reducible repeat (first | refine blk_drewN ?_ _ | refine blk_drew ?_ | refine blk_alloc ?_ _)); refine blk_far ?_ NB373_383.out _; (with_reducible repeat (first | refine blk_drewN ?_ _ | refine blk_drew ?_ | refine blk_alloc ?_ _)); refine blk_far ?_ NB373_383.out _; (with_reducible repeat (first | refine blk_drewN ?_ _ | refine blk_drew ?_ | refine blk_alloc ?_ _)); exact BK373.out) hb); have n2_ := Aside0.mk (blk_below (g := gb383) (o := .cells #[.bool ((rd_T70 l1_6 x74_3).f0), .slice A382_1 ((rd_T70 l1_6 x74_3).f1).length c382_1, .slice A382_2 ((rd_T70 l1_6 x74_3).f2).length c382_2] 70 (0, 0)) (by (with_reducible repeat (first | refine blk_drewN ?_ _ | refine blk_drew ?_ | refine blk_alloc ?_ _)); refine blk_put (cs := #[.bool ((rd_T70 l1_6 x74_3).f0), .slice A382_1 ((rd_T70 l1_6 x74_3).f1).length c382_1, .slice none 0 0]) ?_ 2 _ rfl; (with_reducible repeat (first | refine blk_drewN ?_ _ | refine blk_drew ?_ | refine blk_alloc ?_ _)); refine blk_put (cs := #[.bool ((rd_T70 l1_6 x74_3).f0), .slice none 0 0, .slice none 0 0]) ?_ 1 _ rfl; (with_reducible repeat (first | refine blk_drewN ?_ _ | refine blk_drew ?_ | refine blk_alloc ?_ _)); refine blk_put (cs := #[.bool false, .slice none 0 0, .slice none 0 0]) ?_ 0 _ rfl; (with_reducible repeat (first | refine blk_drewN ?_ _ | refine blk_drew ?_ | refine blk_alloc ?_ _)); exact BK383.out) hb); have n3_ := Aside0.mk (below_step (by repeat (first | (with_reducible first | exact HB.out | apply below_alloc | apply pw_below_drewN | apply below_drew1 | refine below_set ?_ GE372.out | refine below_set ?_ GE373.out | refine below_set ?_ GE383.out) | exact HB.out)) hb); clear BK372; clear BK373; clear BK383; clear HB; have BK372 := n0_; have BK373 := n1_; have BK383 := n2_; have HB := n3_; clear n0_ n1_ n2_ n3_; (try clear hb); (try clear hb2); (try clear hk); (try clear hi)))
                          go_ret
                          exact ⟨by first | rfl | (simp [errW_none, errW_some] <;> rfl) | (simp [*, errW_none, errW_some] <;> rfl), by repeat (first | (with_reducible first | exact HB.out | apply below_alloc | apply pw_below_drewN | apply below_drew1 | refine below_set ?_ GE372.out | refine below_set ?_ GE373.out | refine below_set ?_ GE383.out) | exact HB.out)⟩
                      · rw [if_neg c92] at H
                        exact absurd H (by simp)
                    · rw [if_neg c91] at H
                      exact absurd H (by simp)
                  · rw [if_neg c90] at H
                    have c90b0 : decide (x74_3 < (l1_6.length : Int)) = false := decide_eq_false c90
                    clear c90
                    obtain rfl := Option.some.inj H
                    simp only [Option.some.injEq, Prod.mk.injEq] at H
                    obtain ⟨rfl⟩ := H
                    go_wp2
                    go_ret
                    exact ⟨by first | rfl | (simp [errW_none, errW_some] <;> rfl) | (simp [*, errW_none, errW_some] <;> rfl), by repeat (first | (with_reducible first | exact HB.out | apply below_alloc | apply pw_below_drewN | apply below_drew1 | refine below_set ?_ GE372.out | refine below_set ?_ GE373.out) | exact HB.out)⟩
end Go.Proofs.Ytedodaifpekahaa.P

end
section

namespace Go.Proofs.Ytedodaifpekahaa.P
open Go.RowKit Go.Proofs.YtedodaifpekahaaW.PrintWords Go.Proofs.YtedodaifpekahaaW.PrintLast Go.Proofs.YtedodaifpekahaaW.PrintMore
attribute [local go_sem] max2_int min2_int max_two min_two max_three min_three max_four min_four
set_option linter.unusedVariables false
set_option linter.unusedSimpArgs false
set_option maxHeartbeats 8000000 in
set_option maxRecDepth 100000 in
theorem impl_classUp.calls (k : Nat) (A0 : Option Addr) (c0 : Nat) (l0 : List (S76)) (a1 : Int) (a2 : Int) (r : Bool) (w : World) (hr0 : Kd.C k76 w A0 l0.length l0) (hc0 : l0.length ≤ c0) (h : impl_classUp.f k l0 a1 a2 = some r) :
    Calls Try.prog 46 #[.slice A0 l0.length c0, .int .i64 a1, .int .i64 a2] w fun e w' => e = .returned (.bool r) ∧ Drawn0 w w' := by
  have HR0 := Aside0.mk hr0
  have HC0 := Aside0.mk hc0
  clear hr0 hc0
  have H : (impl_classUp.l0 k l0 a2 a1) = some r := h
  clear h
  have H' := Aside0.mk H
  clear H
  go_enter Try.func46, Try.ntmps46
  go_wp2
  go_loopg [7] k (fun kq v7 w' => ∃ (x7_1 : Int), v7 = .int .i64 x7_1 ∧ Aside0 (impl_classUp.l0 kq l0 a2 x7_1 = some r) ∧ Aside0 (kq ≤ k) ∧ Drawn0 w w')
  case atStart => exact ⟨(a1), (by first | rfl | (simp; done) | (simp [*]; done)), H', ⟨Nat.le_refl _⟩, by repeat (first | exact Drawn0.refl _ | apply Drawn0.step)⟩
  case round =>
    clear H'
    try clear p2
    obtain ⟨x7_1, rfl, HA, HK1, ⟨m1, rfl⟩⟩ := hrel
    cases gk with
    | zero => exact absurd HA.out (by simp [impl_classUp.l0])
    | succ k1 =>
      have H := HA.out
      clear HA
      simp only [impl_classUp.l0] at H
      by_cases c4 : x7_1 ≥ 0
      · rw [if_pos c4] at H
        have c4b0 : decide (0 ≤ x7_1) = true := decide_eq_true c4
        clear c4
        by_cases c5 : x7_1 = a2
        · rw [if_pos c5] at H
          have c5b0 : (x7_1 == a2) = true := beq_iff_eq.mpr c5
          have c5b1 : (x7_1 != a2) = false := bne_eq_false_iff_eq.mpr c5
          clear c5
          obtain rfl := Option.some.inj H
          simp only [Option.some.injEq, Prod.mk.injEq] at H
          obtain ⟨rfl⟩ := H
          go_wp2
          go_ret
          exact ⟨by first | rfl | (simp; done) | (simp [*]; done), by repeat (first | exact Drawn0.refl _ | apply Drawn0.step)⟩
        · rw [if_neg c5] at H
          have c5b0 : (x7_1 == a2) = false := beq_eq_false_iff_ne.mpr c5
          have c5b1 : (x7_1 != a2) = true := bne_iff_ne.mpr c5
          by_cases c6 : 0 ≤ x7_1
          · rw [if_pos c6] at H
            have c6b0 : decide (0 ≤ x7_1) = true := decide_eq_true c6
            clear c6
            by_cases c7 : x7_1 < (l0.length : Int)
            · rw [if_pos c7] at H
              have c7b0 : decide (x7_1 < (l0.length : Int)) = true := decide_eq_true c7
              clear c7
              have H' := Aside0.mk H
              clear H
              have p385 : 0 ≤ (x7_1 : Int) := of_decide_eq_true (by first | (with_reducible assumption) | assumption)
              have q385 : x7_1 < (l0.length : Int) := of_decide_eq_true (by first | (with_reducible assumption) | assumption)
              obtain ⟨ad385, A385_1, c385_1, e385, hx385_0, hx385_1, hl385_1, hi385_1⟩ := at_T76 HR0.out x7_1 p385 q385
              cases e385
              have HR385_1 := Aside0.mk hi385_1
              have HC385_1 := Aside0.mk hl385_1
              clear hi385_1 hl385_1
              replace p385 := eq_true p385
              replace q385 := eq_true q385
              go_wp2
              go_roundg k1
              case measure => have := HK1.out; omega
              case rel => exact ⟨((rd_T76 l0 x7_1).f0), (by first | rfl | (simp; done) | (simp [*]; done)), H', ⟨by have := HK1.out; omega⟩, by repeat (first | exact Drawn0.refl _ | apply Drawn0.step)⟩
            · rw [if_neg c7] at H
              exact absurd H (by simp)
          · rw [if_neg c6] at H
            exact absurd H (by simp)
      · rw [if_neg c4] at H
        have c4b0 : decide (0 ≤ x7_1) = false := decide_eq_false c4
        clear c4
        obtain rfl := Option.some.inj H
        simp only [Option.some.injEq, Prod.mk.injEq] at H
        obtain ⟨rfl⟩ := H
        go_wp2
        go_ret
        exact ⟨by first | rfl | (simp; done) | (simp [*]; done), by repeat (first | exact Drawn0.refl _ | apply Drawn0.step)⟩
end Go.Proofs.Ytedodaifpekahaa.P

end
section

namespace Go.Proofs.Ytedodaifpekahaa.P
open Go.RowKit Go.Proofs.YtedodaifpekahaaW.PrintWords Go.Proofs.YtedodaifpekahaaW.PrintLast Go.Proofs.YtedodaifpekahaaW.PrintMore
attribute [local go_sem] max2_int min2_int max_two min_two max_three min_three max_four min_four
set_option linter.unusedVariables false
set_option linter.unusedSimpArgs false
set_option maxHeartbeats 8000000 in
set_option maxRecDepth 100000 in
theorem impl_catchesOk.calls (k : Nat) (A0_0 : Option Addr) (c0_0 : Nat) (l0_0 : List (S76)) (A0_1 : Option Addr) (c0_1 : Nat) (l0_1 : List (S46)) (a1_0 : Int) (a1_1 : Int) (A1_2 : Option Addr) (c1_2 : Nat) (l1_2 : List Int) (a1_3 : Int) (a1_4 : Int) (A1_5 : Option Addr) (c1_5 : Nat) (l1_5 : List (S67)) (A1_6 : Option Addr) (c1_6 : Nat) (l1_6 : List (S70)) (A1_7 : Option Addr) (c1_7 : Nat) (l1_7 : List (S73)) (r : Bool) (w : World) (hr0_0 : Kd.C k76 w A0_0 l0_0.length l0_0) (hc0_0 : l0_0.length ≤ c0_0) (hr0_1 : Kd.C k46 w A0_1 l0_1.length l0_1) (hc0_1 : l0_1.length ≤ c0_1) (hr1_2 : Kd.C (Kd.int .i64) w A1_2 l1_2.length l1_2) (hc1_2 : l1_2.length ≤ c1_2) (hr1_5 : Kd.C k67 w A1_5 l1_5.length l1_5) (hc1_5 : l1_5.length ≤ c1_5) (hr1_6 : Kd.C k70 w A1_6 l1_6.length l1_6) (hc1_6 : l1_6.length ≤ c1_6) (hr1_7 : Kd.C k73 w A1_7 l1_7.length l1_7) (hc1_7 : l1_7.length ≤ c1_7) (h : impl_catchesOk.f k l0_0 l0_1 a1_0 a1_1 l1_2 a1_3 a1_4 l1_5 l1_6 l1_7 = some r) :
    Calls Try.prog 24 #[.agg #[.slice A0_0 l0_0.length c0_0, .slice A0_1 l0_1.length c0_1], .agg #[.int .i64 a1_0, .int .i64 a1_1, .slice A1_2 l1_2.length c1_2, .int .i64 a1_3, .int .i64 a1_4, .slice A1_5 l1_5.length c1_5, .slice A1_6 l1_6.length c1_6, .slice A1_7 l1_7.length c1_7]] w fun e w' => e = .returned (.bool r) ∧ Below w.heap.size w w' := by
  have hu31 := Try.underlying31
  have hu46 := Try.underlying46
  have hu73 := Try.underlying73
  have HR0_0 := Aside0.mk hr0_0
  have HC0_0 := Aside0.mk hc0_0
  clear hr0_0 hc0_0
  have HR0_1 := Aside0.mk hr0_1
  have HC0_1 := Aside0.mk hc0_1
  clear hr0_1 hc0_1
  have HR1_2 := Aside0.mk hr1_2
  have HC1_2 := Aside0.mk hc1_2
  clear hr1_2 hc1_2
  have HR1_5 := Aside0.mk hr1_5
  have HC1_5 := Aside0.mk hc1_5
  clear hr1_5 hc1_5
  have HR1_6 := Aside0.mk hr1_6
  have HC1_6 := Aside0.mk hc1_6
  clear hr1_6 hc1_6
  have HR1_7 := Aside0.mk hr1_7
  have HC1_7 := Aside0.mk hc1_7
  clear hr1_7 hc1_7
  have HB := Aside0.mk (Below.refl w.heap.size w)
  have H : (if (l1_7.length : Int) > 2 then (some false) else (impl_catchesOk.l0 k l1_7 (l1_7.length : Int) 0 l0_0 l0_1 a1_0 a1_1 l1_2 a1_3 a1_4 l1_5 l1_6 l1_7)) = some r := h
  clear h
  by_cases c3 : (l1_7.length : Int) > 2
  · rw [if_pos c3] at H
    have c3b0 : decide (2 < (l1_7.length : Int)) = true := decide_eq_true c3
    have c3b1 : decide (2 < l1_7.length) = true := decide_eq_true (by omega)
    clear c3
    obtain rfl := Option.some.inj H
    simp only [Option.some.injEq, Prod.mk.injEq] at H
    obtain ⟨rfl⟩ := H
    go_enter Try.func24, Try.ntmps24
    go_wp2_with (first | ((with_reducible refine gate_dst (N := 2) rfl ?_); (try (refine gate_guard (by rfl) ?_; dsimp only)); refine box_event ?hg (N := 2) ?hd (cs := #[.slice A0_0 l0_0.length c0_0, .slice A0_1 l0_1.length c0_1]) (t := 31) ?hr ?_; (case hd => rfl); (case hg => rfl); (case hr => first | (go_simp; done) | (go_simp; rfl)); intro gb386 hg w4 hbox hb; have n0_ := Aside0.mk (below_step (by repeat (first | (with_reducible first | exact HB.out | apply below_alloc | apply pw_below_drewN | apply below_drew1) | exact HB.out)) hb); have n1_ := Aside0.mk (hbox); have n2_ := Aside0.mk ((by rw [hg]; exact (below_size (by repeat (first | (with_reducible first | exact HB.out | apply below_alloc | apply pw_below_drewN | apply below_drew1) | exact HB.out))) : w.heap.size ≤ gb386)); have n3_ := Aside0.mk ((by rw [hg]; exact (below_size (by repeat (first | (with_reducible first | exact HB.out | apply below_alloc | apply pw_below_drewN | apply below_drew1) | exact HB.out))) : w.heap.size ≤ gb386)); clear HB; have HB := n0_; have BK386 := n1_; have GW386 := n2_; have GE386 := n3_; clear n0_ n1_ n2_ n3_; clear hb hbox hg) | ((with_reducible refine gate_dst (N := 3) rfl ?_); (try (refine gate_guard (by rfl) ?_; dsimp only)); refine box_event ?hg (N := 3) ?hd (cs := #[.int .i64 a1_0, .int .i64 a1_1, .slice A1_2 l1_2.length c1_2, .int .i64 a1_3, .int .i64 a1_4, .slice A1_5 l1_5.length c1_5, .slice A1_6 l1_6.length c1_6, .slice A1_7 l1_7.length c1_7]) (t := 46) ?hr ?_; (case hd => rfl); (case hg => rfl); (case hr => first | (go_simp; done) | (go_simp; rfl)); intro gb387 hg w5 hbox hb; have n0_ := Aside0.mk (blk_below (g := gb386) (o := .cells #[.slice A0_0 l0_0.length c0_0, .slice A0_1 l0_1.length c0_1] 31 (0, 0)) (by (with_reducible repeat (first | refine blk_drewN ?_ _ | refine blk_drew ?_ | refine blk_alloc ?_ _)); exact BK386.out) hb); have n1_ := Aside0.mk (below_step (by repeat (first | (with_reducible first | exact HB.out | apply below_alloc | apply pw_below_drewN | apply below_drew1 | refine below_set ?_ GE386.out) | exact HB.out)) hb); have n2_ := Aside0.mk (hbox); have n3_ := Aside0.mk ((by rw [hg]; exact (below_size (by repeat (first | (with_reducible first | exact HB.out | apply below_alloc | apply pw_below_drewN | apply below_drew1 | refine below_set ?_ GE386.out) | exact HB.out))) : w.heap.size ≤ gb387)); have n4_ := Aside0.mk ((by rw [hg]; exact (below_size (by repeat (first | (with_reducible first | exact HB.out | apply below_alloc | apply pw_below_drewN | apply below_drew1 | refine below_set ?_ GE386.out) | exact HB.out))) : w.heap.size ≤ gb387)); have n5_ := Aside0.mk ((by rw [hg]; exact Nat.ne_of_lt (blk_lt (g := gb386) (o := .cells #[.slice A0_0 l0_0.length c0_0, .slice A0_1 l0_1.length c0_1] 31 (0, 0)) (by (with_reducible repeat (first | refine blk_drewN ?_ _ | refine blk_drew ?_ | refine blk_alloc ?_ _)); exact BK386.out)) : gb386 ≠ gb387)); have n6_ := Aside0.mk ((by rw [hg]; exact Nat.ne_of_gt (blk_lt (g := gb386) (o := .cells #[.slice A0_0 l0_0.length c0_0, .slice A0_1 l0_1.length c0_1] 31 (0, 0)) (by (with_reducible repeat (first | refine blk_drewN ?_ _ | refine blk_drew ?_ | refine blk_alloc ?_ _)); exact BK386.out)) : gb387 ≠ gb386)); clear BK386; clear HB; have BK386 := n0_; have HB := n1_; have BK387 := n2_; have GW387 := n3_; have GE387 := n4_; have NB386_387 := n5_; have NB387_386 := n6_; clear n0_ n1_ n2_ n3_ n4_ n5_ n6_; clear hb hbox hg; have hnb6 := NB387_386.out; have hnc6 := NB386_387.out; have hcz7_0 : w5.cell? ⟨gb387, 0, none⟩ = some (.int .i64 a1_0) := (blk_cell BK387.out 0).trans rfl; have hcz7_1 : w5.cell? ⟨gb387, 1, none⟩ = some (.int .i64 a1_1) := (blk_cell BK387.out 1).trans rfl; have hcz7_2 : w5.cell? ⟨gb387, 2, none⟩ = some (.slice A1_2 l1_2.length c1_2) := (blk_cell BK387.out 2).trans rfl; have hcz7_3 : w5.cell? ⟨gb387, 3, none⟩ = some (.int .i64 a1_3) := (blk_cell BK387.out 3).trans rfl; have hcz7_4 : w5.cell? ⟨gb387, 4, none⟩ = some (.int .i64 a1_4) := (blk_cell BK387.out 4).trans rfl; have hcz7_5 : w5.cell? ⟨gb387, 5, none⟩ = some (.slice A1_5 l1_5.length c1_5) := (blk_cell BK387.out 5).trans rfl; have hcz7_6 : w5.cell? ⟨gb387, 6, none⟩ = some (.slice A1_6 l1_6.length c1_6) := (blk_cell BK387.out 6).trans rfl; have hcz7_7 : w5.cell? ⟨gb387, 7, none⟩ = some (.slice A1_7 l1_7.length c1_7) := (blk_cell BK387.out 7).trans rfl; have hfz7_0 := blk_frozen BK387.out 0; have hfz7_1 := blk_frozen BK387.out 1; have hfz7_2 := blk_frozen BK387.out 2; have hfz7_3 := blk_frozen BK387.out 3; have hfz7_4 := blk_frozen BK387.out 4; have hfz7_5 := blk_frozen BK387.out 5; have hfz7_6 := blk_frozen BK387.out 6; have hfz7_7 := blk_frozen BK387.out 7))
    go_ret
    exact ⟨by first | rfl | (simp [errW_none, errW_some] <;> rfl) | (simp [*, errW_none, errW_some] <;> rfl), by repeat (first | (with_reducible first | exact HB.out | apply below_alloc | apply pw_below_drewN | apply below_drew1 | refine below_set ?_ GE386.out | refine below_set ?_ GE387.out) | exact HB.out)⟩
  · rw [if_neg c3] at H
    have c3b0 : decide (2 < (l1_7.length : Int)) = false := decide_eq_false c3
    have c3b1 : decide (2 < l1_7.length) = false := decide_eq_false (by omega)
    clear c3
    have H' := Aside0.mk H
    clear H
    go_enter Try.func24, Try.ntmps24
    go_wp2_with (first | ((with_reducible refine gate_dst (N := 2) rfl ?_); (try (refine gate_guard (by rfl) ?_; dsimp only)); refine box_event ?hg (N := 2) ?hd (cs := #[.slice A0_0 l0_0.length c0_0, .slice A0_1 l0_1.length c0_1]) (t := 31) ?hr ?_; (case hd => rfl); (case hg => rfl); (case hr => first | (go_simp; done) | (go_simp; rfl)); intro gb386 hg w8 hbox hb; have n0_ := Aside0.mk (below_step (by repeat (first | (with_reducible first | exact HB.out | apply below_alloc | apply pw_below_drewN | apply below_drew1) | exact HB.out)) hb); have n1_ := Aside0.mk (hbox); have n2_ := Aside0.mk ((by rw [hg]; exact (below_size (by repeat (first | (with_reducible first | exact HB.out | apply below_alloc | apply pw_below_drewN | apply below_drew1) | exact HB.out))) : w.heap.size ≤ gb386)); have n3_ := Aside0.mk ((by rw [hg]; exact (below_size (by repeat (first | (with_reducible first | exact HB.out | apply below_alloc | apply pw_below_drewN | apply below_drew1) | exact HB.out))) : w.heap.size ≤ gb386)); clear HB; have HB := n0_; have BK386 := n1_; have GW386 := n2_; have GE386 := n3_; clear n0_ n1_ n2_ n3_; clear hb hbox hg) | ((with_reducible refine gate_dst (N := 3) rfl ?_); (try (refine gate_guard (by rfl) ?_; dsimp only)); refine box_event ?hg (N := 3) ?hd (cs := #[.int .i64 a1_0, .int .i64 a1_1, .slice A1_2 l1_2.length c1_2, .int .i64 a1_3, .int .i64 a1_4, .slice A1_5 l1_5.length c1_5, .slice A1_6 l1_6.length c1_6, .slice A1_7 l1_7.length c1_7]) (t := 46) ?hr ?_; (case hd => rfl); (case hg => rfl); (case hr => first | (go_simp; done) | (go_simp; rfl)); intro gb387 hg w9 hbox hb; have n0_ := Aside0.mk (blk_below (g := gb386) (o := .cells #[.slice A0_0 l0_0.length c0_0, .slice A0_1 l0_1.length c0_1] 31 (0, 0)) (by (with_reducible repeat (first | refine blk_drewN ?_ _ | refine blk_drew ?_ | refine blk_alloc ?_ _)); exact BK386.out) hb); have n1_ := Aside0.mk (below_step (by repeat (first | (with_reducible first | exact HB.out | apply below_alloc | apply pw_below_drewN | apply below_drew1 | refine below_set ?_ GE386.out) | exact HB.out)) hb); have n2_ := Aside0.mk (hbox); have n3_ := Aside0.mk ((by rw [hg]; exact (below_size (by repeat (first | (with_reducible first | exact HB.out | apply below_alloc | apply pw_below_drewN | apply below_drew1 | refine below_set ?_ GE386.out) | exact HB.out))) : w.heap.size ≤ gb387)); have n4_ := Aside0.mk ((by rw [hg]; exact (below_size (by repeat (first | (with_reducible first | exact HB.out | apply below_alloc | apply pw_below_drewN | apply below_drew1 | refine below_set ?_ GE386.out) | exact HB.out))) : w.heap.size ≤ gb387)); have n5_ := Aside0.mk ((by rw [hg]; exact Nat.ne_of_lt (blk_lt (g := gb386) (o := .cells #[.slice A0_0 l0_0.length c0_0, .slice A0_1 l0_1.length c0_1] 31 (0, 0)) (by (with_reducible repeat (first | refine blk_drewN ?_ _ | refine blk_drew ?_ | refine blk_alloc ?_ _)); exact BK386.out)) : gb386 ≠ gb387)); have n6_ := Aside0.mk ((by rw [hg]; exact Nat.ne_of_gt (blk_lt (g := gb386) (o := .cells #[.slice A0_0 l0_0.length c0_0, .slice A0_1 l0_1.length c0_1] 31 (0, 0)) (by (with_reducible repeat (first | refine blk_drewN ?_ _ | refine blk_drew ?_ | refine blk_alloc ?_ _)); exact BK386.out)) : gb387 ≠ gb386)); clear BK386; clear HB; have BK386 := n0_; have HB := n1_; have BK387 := n2_; have GW387 := n3_; have GE387 := n4_; have NB386_387 := n5_; have NB387_386 := n6_; clear n0_ n1_ n2_ n3_ n4_ n5_ n6_; clear hb hbox hg; have hnb10 := NB387_386.out; have hnc10 := NB386_387.out; have hcz11_0 : w9.cell? ⟨gb387, 0, none⟩ = some (.int .i64 a1_0) := (blk_cell BK387.out 0).trans rfl; have hcz11_1 : w9.cell? ⟨gb387, 1, none⟩ = some (.int .i64 a1_1) := (blk_cell BK387.out 1).trans rfl; have hcz11_2 : w9.cell? ⟨gb387, 2, none⟩ = some (.slice A1_2 l1_2.length c1_2) := (blk_cell BK387.out 2).trans rfl; have hcz11_3 : w9.cell? ⟨gb387, 3, none⟩ = some (.int .i64 a1_3) := (blk_cell BK387.out 3).trans rfl; have hcz11_4 : w9.cell? ⟨gb387, 4, none⟩ = some (.int .i64 a1_4) := (blk_cell BK387.out 4).trans rfl; have hcz11_5 : w9.cell? ⟨gb387, 5, none⟩ = some (.slice A1_5 l1_5.length c1_5) := (blk_cell BK387.out 5).trans rfl; have hcz11_6 : w9.cell? ⟨gb387, 6, none⟩ = some (.slice A1_6 l1_6.length c1_6) := (blk_cell BK387.out 6).trans rfl; have hcz11_7 : w9.cell? ⟨gb387, 7, none⟩ = some (.slice A1_7 l1_7.length c1_7) := (blk_cell BK387.out 7).trans rfl; have hfz11_0 := blk_frozen BK387.out 0; have hfz11_1 := blk_frozen BK387.out 1; have hfz11_2 := blk_frozen BK387.out 2; have hfz11_3 := blk_frozen BK387.out 3; have hfz11_4 := blk_frozen BK387.out 4; have hfz11_5 := blk_frozen BK387.out 5; have hfz11_6 := blk_frozen BK387.out 6; have hfz11_7 := blk_frozen BK387.out 7))
    go_loopg [14] k (fun kq v14 w' => ∃ (x14_1 : Int), v14 = .int .i64 x14_1 ∧ Aside0 (impl_catchesOk.l0 kq l1_7 (l1_7.length : Int) x14_1 l0_0 l0_1 a1_0 a1_1 l1_2 a1_3 a1_4 l1_5 l1_6 l1_7 = some r) ∧ Aside0 (kq ≤ k) ∧ Aside0 (w'.heap[gb386]? = some (.cells #[(.slice A0_0 l0_0.length c0_0), (.slice A0_1 l0_1.length c0_1)] 31 (0, 0))) ∧ Aside0 (w'.heap[gb387]? = some (.cells #[.int .i64 a1_0, .int .i64 a1_1, (.slice A1_2 l1_2.length c1_2), .int .i64 a1_3, .int .i64 a1_4, (.slice A1_5 l1_5.length c1_5), (.slice A1_6 l1_6.length c1_6), (.slice A1_7 l1_7.length c1_7)] 46 (0, 0))) ∧ Aside0 (Below w.heap.size w w'))
    case atStart => exact ⟨(0), (by first | rfl | (simp; done) | (simp [*]; done)), H', ⟨Nat.le_refl _⟩, ⟨by (with_reducible repeat (first | refine blk_drewN ?_ _ | refine blk_drew ?_ | refine blk_alloc ?_ _)); exact BK386.out⟩, ⟨by (with_reducible repeat (first | refine blk_drewN ?_ _ | refine blk_drew ?_ | refine blk_alloc ?_ _)); exact BK387.out⟩, ⟨by repeat (first | (with_reducible first | exact HB.out | apply below_alloc | apply pw_below_drewN | apply below_drew1 | refine below_set ?_ GE386.out | refine below_set ?_ GE387.out) | exact HB.out)⟩⟩
    case round =>
      clear H'
      try clear c1
      try clear c2
      try clear p2
      try clear c3
      try clear c3b0
      try clear c3b1
      try clear c6
      try clear c10
      try clear hcz11_0
      try clear hcz11_1
      try clear hcz11_2
      try clear hcz11_3
      try clear hcz11_4
      try clear hcz11_5
      try clear hcz11_6
      try clear hcz11_7
      try clear hcz7_0
      try clear hcz7_1
      try clear hcz7_2
      try clear hcz7_3
      try clear hcz7_4
      try clear hcz7_5
      try clear hcz7_6
      try clear hcz7_7
      try clear hfz11_0
      try clear hfz11_1
      try clear hfz11_2
      try clear hfz11_3
      try clear hfz11_4
      try clear hfz11_5
      try clear hfz11_6
      try clear hfz11_7
      try clear hfz7_0
      try clear hfz7_1
      try clear hfz7_2
      try clear hfz7_3
      try clear hfz7_4
      try clear hfz7_5
      try clear hfz7_6
      try clear hfz7_7
      obtain ⟨x14_1, rfl, HA, HK1, BK386, BK387, HB⟩ := hrel
      cases gk with
      | zero => exact absurd HA.out (by simp [impl_catchesOk.l0])
      | succ k1 =>
        have H := HA.out
        clear HA
        simp only [impl_catchesOk.l0] at H
        by_cases c12 : x14_1 < (l1_7.length : Int)
        · rw [if_pos c12] at H
          have c12b0 : decide (x14_1 < (l1_7.length : Int)) = true := decide_eq_true c12
          clear c12
          by_cases c13 : 0 ≤ x14_1
          · rw [if_pos c13] at H
            have c13b0 : decide (0 ≤ x14_1) = true := decide_eq_true c13
            clear c13
            by_cases c14 : x14_1 < (l1_7.length : Int)
            · rw [if_pos c14] at H
              have c14b0 : decide (x14_1 < (l1_7.length : Int)) = true := decide_eq_true c14
              clear c14
              have HC15 := Aside0.mk H
              clear H
              have p388 : 0 ≤ (x14_1 : Int) := of_decide_eq_true (by first | (with_reducible assumption) | assumption)
              have q388 : x14_1 < (l1_7.length : Int) := of_decide_eq_true (by first | (with_reducible assumption) | assumption)
              obtain ⟨ad388, e388, hx388_0, hx388_1, hx388_2, hx388_3⟩ := at_T73 HR1_7.out x14_1 p388 q388
              cases e388
              replace hx388_0 := (HB.out.cell (World.block_lt_of_cell? w _ hx388_0)).trans hx388_0
              replace hx388_1 := (HB.out.cell (World.block_lt_of_cell? w _ hx388_1)).trans hx388_1
              replace hx388_2 := (HB.out.cell (World.block_lt_of_cell? w _ hx388_2)).trans hx388_2
              replace hx388_3 := (HB.out.cell (World.block_lt_of_cell? w _ hx388_3)).trans hx388_3
              replace p388 := eq_true p388
              replace q388 := eq_true q388
              go_upto_region 6 with (first | ((with_reducible refine gate_dst (N := 6) rfl ?_); (try (refine gate_guard (by rfl) ?_; dsimp only)); refine box_event ?hg (N := 6) ?hd (cs := #[.int .i64 0, .int .i64 0, .int .i64 0, .int .i64 0]) (t := 73) ?hr ?_; (case hd => rfl); (case hg => rfl); (case hr => first | (go_simp; done) | (go_simp; rfl)); intro gb389 hg w16 hbox hb; have n0_ := Aside0.mk (blk_below (g := gb386) (o := .cells #[.slice A0_0 l0_0.length c0_0, .slice A0_1 l0_1.length c0_1] 31 (0, 0)) (by (with_reducible repeat (first | refine blk_drewN ?_ _ | refine blk_drew ?_ | refine blk_alloc ?_ _)); exact BK386.out) hb); have n1_ := Aside0.mk (blk_below (g := gb387) (o := .cells #[.int .i64 a1_0, .int .i64 a1_1, .slice A1_2 l1_2.length c1_2, .int .i64 a1_3, .int .i64 a1_4, .slice A1_5 l1_5.length c1_5, .slice A1_6 l1_6.length c1_6, .slice (some ad388) l1_7.length c1_7] 46 (0, 0)) (by (with_reducible repeat (first | refine blk_drewN ?_ _ | refine blk_drew ?_ | refine blk_alloc ?_ _)); exact BK387.out) hb); have n2_ := Aside0.mk (below_step (by repeat (first | (with_reducible first | exact HB.out | apply below_alloc | apply pw_below_drewN | apply below_drew1 | refine below_set ?_ GE386.out | refine below_set ?_ GE387.out) | exact HB.out)) hb); have n3_ := Aside0.mk (hbox); have n4_ := Aside0.mk ((by rw [hg]; exact (below_size (by repeat (first | (with_reducible first | exact HB.out | apply below_alloc | apply pw_below_drewN | apply below_drew1 | refine below_set ?_ GE386.out | refine below_set ?_ GE387.out) | exact HB.out))) : w.heap.size ≤ gb389)); have n5_ := Aside0.mk ((by rw [hg]; exact (below_size (by repeat (first | (with_reducible first | exact HB.out | apply below_alloc | apply pw_below_drewN | apply below_drew1 | refine below_set ?_ GE386.out | refine below_set ?_ GE387.out) | exact HB.out))) : w.heap.size ≤ gb389)); have n6_ := Aside0.mk ((by rw [hg]; exact Nat.ne_of_lt (blk_lt (g := gb386) (o := .cells #[.slice A0_0 l0_0.length c0_0, .slice A0_1 l0_1.length c0_1] 31 (0, 0)) (by (with_reducible repeat (first | refine blk_drewN ?_ _ | refine blk_drew ?_ | refine blk_alloc ?_ _)); exact BK386.out)) : gb386 ≠ gb389)); have n7_ := Aside0.mk ((by rw [hg]; exact Nat.ne_of_gt (blk_lt (g := gb386) (o := .cells #[.slice A0_0 l0_0.length c0_0, .slice A0_1 l0_1.length c0_1] 31 (0, 0)) (by (with_reducible repeat (first | refine blk_drewN ?_ _ | refine blk_drew ?_ | refine blk_alloc ?_ _)); exact BK386.out)) : gb389 ≠ gb386)); have n8_ := Aside0.mk ((by rw [hg]; exact Nat.ne_of_lt (blk_lt (g := gb387) (o := .cells #[.int .i64 a1_0, .int .i64 a1_1, .slice A1_2 l1_2.length c1_2, .int .i64 a1_3, .int .i64 a1_4, .slice A1_5 l1_5.length c1_5, .slice A1_6 l1_6.length c1_6, .slice (some ad388) l1_7.length c1_7] 46 (0, 0)) (by (with_reducible repeat (first | refine blk_drewN ?_ _ | refine blk_drew ?_ | refine blk_alloc ?_ _)); exact BK387.out)) : gb387 ≠ gb389)); have n9_ := Aside0.mk ((by rw [hg]; exact Nat.ne_of_gt (blk_lt (g := gb387) (o := .cells #[.int .i64 a1_0, .int .i64 a1_1, .slice A1_2 l1_2.length c1_2, .int .i64 a1_3, .int .i64 a1_4, .slice A1_5 l1_5.length c1_5, .slice A1_6 l1_6.length c1_6, .slice (some ad388) l1_7.length c1_7] 46 (0, 0)) (by (with_reducible repeat (first | refine blk_drewN ?_ _ | refine blk_drew ?_ | refine blk_alloc ?_ _)); exact BK387.out)) : gb389 ≠ gb387)); clear BK386; clear BK387; clear HB; have BK386 := n0_; have BK387 := n1_; have HB := n2_; have BK389 := n3_; have GW389 := n4_; have GE389 := n5_; have NB386_389 := n6_; have NB389_386 := n7_; have NB387_389 := n8_; have NB389_387 := n9_; clear n0_ n1_ n2_ n3_ n4_ n5_ n6_ n7_ n8_ n9_; clear hb hbox hg; have hnb17 := NB389_386.out; have hnc17 := NB386_389.out; have hnb18 := NB389_387.out; have hnc18 := NB387_389.out; have hcz19_0 : w16.cell? ⟨gb389, 0, none⟩ = some (.int .i64 0) := (blk_cell BK389.out 0).trans rfl; have hcz19_1 : w16.cell? ⟨gb389, 1, none⟩ = some (.int .i64 0) := (blk_cell BK389.out 1).trans rfl; have hcz19_2 : w16.cell? ⟨gb389, 2, none⟩ = some (.int .i64 0) := (blk_cell BK389.out 2).trans rfl; have hcz19_3 : w16.cell? ⟨gb389, 3, none⟩ = some (.int .i64 0) := (blk_cell BK389.out 3).trans rfl; have hfz19_0 := blk_frozen BK389.out 0; have hfz19_1 := blk_frozen BK389.out 1; have hfz19_2 := blk_frozen BK389.out 2; have hfz19_3 := blk_frozen BK389.out 3))
              (try simp only [Act.put, List.setIfInBounds_toArray, List.set_cons_zero, List.set_cons_succ])
              go_cut [41] (fun v41 wc => ∃ (kq : Nat) (x41_14 : Bool), v41 = .bool x41_14 ∧ Aside0 (impl_catchesOk.j1 kq l1_7 (l1_7.length : Int) x14_1 x41_14 l0_0 l0_1 a1_0 a1_1 l1_2 a1_3 a1_4 l1_5 l1_6 l1_7 ((rd_T73 l1_7 x14_1).f0) ((rd_T73 l1_7 x14_1).f1) ((rd_T73 l1_7 x14_1).f2) ((rd_T73 l1_7 x14_1).f3) = some r) ∧ Aside0 (kq ≤ k1) ∧ Aside0 (wc.heap[gb386]? = some (.cells #[(.slice A0_0 l0_0.length c0_0), (.slice A0_1 l0_1.length c0_1)] 31 (0, 0))) ∧ Aside0 (wc.heap[gb387]? = some (.cells #[.int .i64 a1_0, .int .i64 a1_1, (.slice A1_2 l1_2.length c1_2), .int .i64 a1_3, .int .i64 a1_4, (.slice A1_5 l1_5.length c1_5), (.slice A1_6 l1_6.length c1_6), (.slice (some ad388) l1_7.length c1_7)] 46 (0, 0))) ∧ Aside0 (wc.heap[gb389]? = some (.cells #[.int .i64 ((rd_T73 l1_7 x14_1).f0), .int .i64 ((rd_T73 l1_7 x14_1).f1), .int .i64 ((rd_T73 l1_7 x14_1).f2), .int .i64 ((rd_T73 l1_7 x14_1).f3)] 73 (0, 0))) ∧ Aside0 (Below w.heap.size w wc))
              case first =>
                have H := HC15.out
                clear HC15
                by_cases c20 : ((rd_T73 l1_7 x14_1).f0) < 0
                · rw [if_pos c20] at H
                  have c20b0 : decide (((rd_T73 l1_7 x14_1).f0) < 0) = true := decide_eq_true c20
                  clear c20
                  (first | rw [c20b0] | (simp only [i64_w, i32_w]; rw [c20b0]) | skip)
                  have H' := Aside0.mk H
                  clear H
                  have hnb21 := NB389_386.out
                  have hnc21 := NB386_389.out
                  have hnb22 := NB389_387.out
                  have hnc22 := NB387_389.out
                  have hcz23_0 : w16.cell? ⟨gb389, 0, none⟩ = some (.int .i64 0) := (blk_cell BK389.out 0).trans rfl
                  have hcz23_1 : w16.cell? ⟨gb389, 1, none⟩ = some (.int .i64 0) := (blk_cell BK389.out 1).trans rfl
                  have hcz23_2 : w16.cell? ⟨gb389, 2, none⟩ = some (.int .i64 0) := (blk_cell BK389.out 2).trans rfl
                  have hcz23_3 : w16.cell? ⟨gb389, 3, none⟩ = some (.int .i64 0) := (blk_cell BK389.out 3).trans rfl
                  have hfz23_0 := blk_frozen BK389.out 0
                  have hfz23_1 := blk_frozen BK389.out 1
                  have hfz23_2 := blk_frozen BK389.out 2
                  have hfz23_3 := blk_frozen BK389.out 3
                  go_wp2
                  go_meet
                  case rel => exact ⟨_, (true), (by first | rfl | (simp; done) | (simp [*]; done)), H', ⟨by have := HK1.out; first | omega | exact Nat.le_refl _⟩, ⟨by (with_reducible repeat (first | refine blk_drewN ?_ _ | refine blk_drew ?_ | refine blk_alloc ?_ _)); refine blk_far ?_ NB386_389.out _; (with_reducible repeat (first | refine blk_drewN ?_ _ | refine blk_drew ?_ | refine blk_alloc ?_ _)); refine blk_far ?_ NB386_389.out _; (with_reducible repeat (first | refine blk_drewN ?_ _ | refine blk_drew ?_ | refine blk_alloc ?_ _)); refine blk_far ?_ NB386_389.out _; (with_reducible repeat (first | refine blk_drewN ?_ _ | refine blk_drew ?_ | refine blk_alloc ?_ _)); refine blk_far ?_ NB386_389.out _; (with_reducible repeat (first | refine blk_drewN ?_ _ | refine blk_drew ?_ | refine blk_alloc ?_ _)); exact BK386.out⟩, ⟨by (with_reducible repeat (first | refine blk_drewN ?_ _ | refine blk_drew ?_ | refine blk_alloc ?_ _)); refine blk_far ?_ NB387_389.out _; (with_reducible repeat (first | refine blk_drewN ?_ _ | refine blk_drew ?_ | refine blk_alloc ?_ _)); refine blk_far ?_ NB387_389.out _; (with_reducible repeat (first | refine blk_drewN ?_ _ | refine blk_drew ?_ | refine blk_alloc ?_ _)); refine blk_far ?_ NB387_389.out _; (with_reducible repeat (first | refine blk_drewN ?_ _ | refine blk_drew ?_ | refine blk_alloc ?_ _)); refine blk_far ?_ NB387_389.out _; (with_reducible repeat (first | refine blk_drewN ?_ _ | refine blk_drew ?_ | refine blk_alloc ?_ _)); exact BK387.out⟩, ⟨by (with_reducible repeat (first | refine blk_drewN ?_ _ | refine blk_drew ?_ | refine blk_alloc ?_ _)); refine blk_put (cs := #[.int .i64 ((rd_T73 l1_7 x14_1).f0), .int .i64 ((rd_T73 l1_7 x14_1).f1), .int .i64 ((rd_T73 l1_7 x14_1).f2), .int .i64 0]) ?_ 3 _ rfl; (with_reducible repeat (first | refine blk_drewN ?_ _ | refine blk_drew ?_ | refine blk_alloc ?_ _)); refine blk_put (cs := #[.int .i64 ((rd_T73 l1_7 x14_1).f0), .int .i64 ((rd_T73 l1_7 x14_1).f1), .int .i64 0, .int .i64 0]) ?_ 2 _ rfl; (with_reducible repeat (first | refine blk_drewN ?_ _ | refine blk_drew ?_ | refine blk_alloc ?_ _)); refine blk_put (cs := #[.int .i64 ((rd_T73 l1_7 x14_1).f0), .int .i64 0, .int .i64 0, .int .i64 0]) ?_ 1 _ rfl; (with_reducible repeat (first | refine blk_drewN ?_ _ | refine blk_drew ?_ | refine blk_alloc ?_ _)); refine blk_put (cs := #[.int .i64 0, .int .i64 0, .int .i64 0, .int .i64 0]) ?_ 0 _ rfl; (with_reducible repeat (first | refine blk_drewN ?_ _ | refine blk_drew ?_ | refine blk_alloc ?_ _)); exact BK389.out⟩, ⟨by repeat (first | (with_reducible first | exact HB.out | apply below_alloc | apply pw_below_drewN | apply below_drew1 | refine below_set ?_ GE386.out | refine below_set ?_ GE387.out | refine below_set ?_ GE389.out) | exact HB.out)⟩⟩
                · rw [if_neg c20] at H
                  have c20b0 : decide (((rd_T73 l1_7 x14_1).f0) < 0) = false := decide_eq_false c20
                  clear c20
                  (first | rw [c20b0] | (simp only [i64_w, i32_w]; rw [c20b0]) | skip)
                  by_cases c24 : ((rd_T73 l1_7 x14_1).f0) ≥ (l1_5.length : Int)
                  · rw [if_pos c24] at H
                    have c24b0 : decide ((l1_5.length : Int) ≤ ((rd_T73 l1_7 x14_1).f0)) = true := decide_eq_true c24
                    clear c24
                    have H' := Aside0.mk H
                    clear H
                    have hnb25 := NB389_386.out
                    have hnc25 := NB386_389.out
                    have hnb26 := NB389_387.out
                    have hnc26 := NB387_389.out
                    have hcz27_0 : w16.cell? ⟨gb389, 0, none⟩ = some (.int .i64 0) := (blk_cell BK389.out 0).trans rfl
                    have hcz27_1 : w16.cell? ⟨gb389, 1, none⟩ = some (.int .i64 0) := (blk_cell BK389.out 1).trans rfl
                    have hcz27_2 : w16.cell? ⟨gb389, 2, none⟩ = some (.int .i64 0) := (blk_cell BK389.out 2).trans rfl
                    have hcz27_3 : w16.cell? ⟨gb389, 3, none⟩ = some (.int .i64 0) := (blk_cell BK389.out 3).trans rfl
                    have hfz27_0 := blk_frozen BK389.out 0
                    have hfz27_1 := blk_frozen BK389.out 1
                    have hfz27_2 := blk_frozen BK389.out 2
                    have hfz27_3 := blk_frozen BK389.out 3
                    have hnb28 := NB387_386.out
                    have hnc28 := NB386_387.out
                    have hcz29_0 : w16.cell? ⟨gb387, 0, none⟩ = some (.int .i64 a1_0) := (blk_cell BK387.out 0).trans rfl
                    have hcz29_1 : w16.cell? ⟨gb387, 1, none⟩ = some (.int .i64 a1_1) := (blk_cell BK387.out 1).trans rfl
                    have hcz29_2 : w16.cell? ⟨gb387, 2, none⟩ = some (.slice A1_2 l1_2.length c1_2) := (blk_cell BK387.out 2).trans rfl
                    have hcz29_3 : w16.cell? ⟨gb387, 3, none⟩ = some (.int .i64 a1_3) := (blk_cell BK387.out 3).trans rfl
                    have hcz29_4 : w16.cell? ⟨gb387, 4, none⟩ = some (.int .i64 a1_4) := (blk_cell BK387.out 4).trans rfl
                    have hcz29_5 : w16.cell? ⟨gb387, 5, none⟩ = some (.slice A1_5 l1_5.length c1_5) := (blk_cell BK387.out 5).trans rfl
                    have hcz29_6 : w16.cell? ⟨gb387, 6, none⟩ = some (.slice A1_6 l1_6.length c1_6) := (blk_cell BK387.out 6).trans rfl
                    have hcz29_7 : w16.cell? ⟨gb387, 7, none⟩ = some (.slice (some ad388) l1_7.length c1_7) := (blk_cell BK387.out 7).trans rfl
                    have hfz29_0 := blk_frozen BK387.out 0
                    have hfz29_1 := blk_frozen BK387.out 1
                    have hfz29_2 := blk_frozen BK387.out 2
                    have hfz29_3 := blk_frozen BK387.out 3
                    have hfz29_4 := blk_frozen BK387.out 4
                    have hfz29_5 := blk_frozen BK387.out 5
                    have hfz29_6 := blk_frozen BK387.out 6
                    have hfz29_7 := blk_frozen BK387.out 7
                    go_wp2
                    go_meet
                    case rel => exact ⟨_, (true), (by first | rfl | (simp; done) | (simp [*]; done)), H', ⟨by have := HK1.out; first | omega | exact Nat.le_refl _⟩, ⟨by (with_reducible repeat (first | refine blk_drewN ?_ _ | refine blk_drew ?_ | refine blk_alloc ?_ _)); refine blk_far ?_ NB386_389.out _; (with_reducible repeat (first | refine blk_drewN ?_ _ | refine blk_drew ?_ | refine blk_alloc ?_ _)); refine blk_far ?_ NB386_389.out _; (with_reducible repeat (first | refine blk_drewN ?_ _ | refine blk_drew ?_ | refine blk_alloc ?_ _)); refine blk_far ?_ NB386_389.out _; (with_reducible repeat (first | refine blk_drewN ?_ _ | refine blk_drew ?_ | refine blk_alloc ?_ _)); refine blk_far ?_ NB386_389.out _; (with_reducible repeat (first | refine blk_drewN ?_ _ | refine blk_drew ?_ | refine blk_alloc ?_ _)); exact BK386.out⟩, ⟨by (with_reducible repeat (first | refine blk_drewN ?_ _ | refine blk_drew ?_ | refine blk_alloc ?_ _)); refine blk_far ?_ NB387_389.out _; (with_reducible repeat (first | refine blk_drewN ?_ _ | refine blk_drew ?_ | refine blk_alloc ?_ _)); refine blk_far ?_ NB387_389.out _; (with_reducible repeat (first | refine blk_drewN ?_ _ | refine blk_drew ?_ | refine blk_alloc ?_ _)); refine blk_far ?_ NB387_389.out _; (with_reducible repeat (first | refine blk_drewN ?_ _ | refine blk_drew ?_ | refine blk_alloc ?_ _)); refine blk_far ?_ NB387_389.out _; (with_reducible repeat (first | refine blk_drewN ?_ _ | refine blk_drew ?_ | refine blk_alloc ?_ _)); exact BK387.out⟩, ⟨by (with_reducible repeat (first | refine blk_drewN ?_ _ | refine blk_drew ?_ | refine blk_alloc ?_ _)); refine blk_put (cs := #[.int .i64 ((rd_T73 l1_7 x14_1).f0), .int .i64 ((rd_T73 l1_7 x14_1).f1), .int .i64 ((rd_T73 l1_7 x14_1).f2), .int .i64 0]) ?_ 3 _ rfl; (with_reducible repeat (first | refine blk_drewN ?_ _ | refine blk_drew ?_ | refine blk_alloc ?_ _)); refine blk_put (cs := #[.int .i64 ((rd_T73 l1_7 x14_1).f0), .int .i64 ((rd_T73 l1_7 x14_1).f1), .int .i64 0, .int .i64 0]) ?_ 2 _ rfl; (with_reducible repeat (first | refine blk_drewN ?_ _ | refine blk_drew ?_ | refine blk_alloc ?_ _)); refine blk_put (cs := #[.int .i64 ((rd_T73 l1_7 x14_1).f0), .int .i64 0, .int .i64 0, .int .i64 0]) ?_ 1 _ rfl; (with_reducible repeat (first | refine blk_drewN ?_ _ | refine blk_drew ?_ | refine blk_alloc ?_ _)); refine blk_put (cs := #[.int .i64 0, .int .i64 0, .int .i64 0, .int .i64 0]) ?_ 0 _ rfl; (with_reducible repeat (first | refine blk_drewN ?_ _ | refine blk_drew ?_ | refine blk_alloc ?_ _)); exact BK389.out⟩, ⟨by repeat (first | (with_reducible first | exact HB.out | apply below_alloc | apply pw_below_drewN | apply below_drew1 | refine below_set ?_ GE386.out | refine below_set ?_ GE387.out | refine below_set ?_ GE389.out) | exact HB.out)⟩⟩
                  · rw [if_neg c24] at H
                    have c24b0 : decide ((l1_5.length : Int) ≤ ((rd_T73 l1_7 x14_1).f0)) = false := decide_eq_false c24
                    clear c24
                    by_cases c30 : ((rd_T73 l1_7 x14_1).f2) < 0
                    · rw [if_pos c30] at H
                      have c30b0 : decide (((rd_T73 l1_7 x14_1).f2) < 0) = true := decide_eq_true c30
                      clear c30
                      have H' := Aside0.mk H
                      clear H
                      have hnb31 := NB389_386.out
                      have hnc31 := NB386_389.out
                      have hnb32 := NB389_387.out
                      have hnc32 := NB387_389.out
                      have hcz33_0 : w16.cell? ⟨gb389, 0, none⟩ = some (.int .i64 0) := (blk_cell BK389.out 0).trans rfl
                      have hcz33_1 : w16.cell? ⟨gb389, 1, none⟩ = some (.int .i64 0) := (blk_cell BK389.out 1).trans rfl
                      have hcz33_2 : w16.cell? ⟨gb389, 2, none⟩ = some (.int .i64 0) := (blk_cell BK389.out 2).trans rfl
                      have hcz33_3 : w16.cell? ⟨gb389, 3, none⟩ = some (.int .i64 0) := (blk_cell BK389.out 3).trans rfl
                      have hfz33_0 := blk_frozen BK389.out 0
                      have hfz33_1 := blk_frozen BK389.out 1
                      have hfz33_2 := blk_frozen BK389.out 2
                      have hfz33_3 := blk_frozen BK389.out 3
                      have hnb34 := NB387_386.out
                      have hnc34 := NB386_387.out
                      have hcz35_0 : w16.cell? ⟨gb387, 0, none⟩ = some (.int .i64 a1_0) := (blk_cell BK387.out 0).trans rfl
                      have hcz35_1 : w16.cell? ⟨gb387, 1, none⟩ = some (.int .i64 a1_1) := (blk_cell BK387.out 1).trans rfl
                      have hcz35_2 : w16.cell? ⟨gb387, 2, none⟩ = some (.slice A1_2 l1_2.length c1_2) := (blk_cell BK387.out 2).trans rfl
                      have hcz35_3 : w16.cell? ⟨gb387, 3, none⟩ = some (.int .i64 a1_3) := (blk_cell BK387.out 3).trans rfl
                      have hcz35_4 : w16.cell? ⟨gb387, 4, none⟩ = some (.int .i64 a1_4) := (blk_cell BK387.out 4).trans rfl
                      have hcz35_5 : w16.cell? ⟨gb387, 5, none⟩ = some (.slice A1_5 l1_5.length c1_5) := (blk_cell BK387.out 5).trans rfl
                      have hcz35_6 : w16.cell? ⟨gb387, 6, none⟩ = some (.slice A1_6 l1_6.length c1_6) := (blk_cell BK387.out 6).trans rfl
                      have hcz35_7 : w16.cell? ⟨gb387, 7, none⟩ = some (.slice (some ad388) l1_7.length c1_7) := (blk_cell BK387.out 7).trans rfl
                      have hfz35_0 := blk_frozen BK387.out 0
                      have hfz35_1 := blk_frozen BK387.out 1
                      have hfz35_2 := blk_frozen BK387.out 2
                      have hfz35_3 := blk_frozen BK387.out 3
                      have hfz35_4 := blk_frozen BK387.out 4
                      have hfz35_5 := blk_frozen BK387.out 5
                      have hfz35_6 := blk_frozen BK387.out 6
                      have hfz35_7 := blk_frozen BK387.out 7
                      go_wp2
                      go_meet
                      case rel => exact ⟨_, (true), (by first | rfl | (simp; done) | (simp [*]; done)), H', ⟨by have := HK1.out; first | omega | exact Nat.le_refl _⟩, ⟨by (with_reducible repeat (first | refine blk_drewN ?_ _ | refine blk_drew ?_ | refine blk_alloc ?_ _)); refine blk_far ?_ NB386_389.out _; (with_reducible repeat (first | refine blk_drewN ?_ _ | refine blk_drew ?_ | refine blk_alloc ?_ _)); refine blk_far ?_ NB386_389.out _; (with_reducible repeat (first | refine blk_drewN ?_ _ | refine blk_drew ?_ | refine blk_alloc ?_ _)); refine blk_far ?_ NB386_389.out _; (with_reducible repeat (first | refine blk_drewN ?_ _ | refine blk_drew ?_ | refine blk_alloc ?_ _)); refine blk_far ?_ NB386_389.out _; (with_reducible repeat (first | refine blk_drewN ?_ _ | refine blk_drew ?_ | refine blk_alloc ?_ _)); exact BK386.out⟩, ⟨by (with_reducible repeat (first | refine blk_drewN ?_ _ | refine blk_drew ?_ | refine blk_alloc ?_ _)); refine blk_far ?_ NB387_389.out _; (with_reducible repeat (first | refine blk_drewN ?_ _ | refine blk_drew ?_ | refine blk_alloc ?_ _)); refine blk_far ?_ NB387_389.out _; (with_reducible repeat (first | refine blk_drewN ?_ _ | refine blk_drew ?_ | refine blk_alloc ?_ _)); refine blk_far ?_ NB387_389.out _; (with_reducible repeat (first | refine blk_drewN ?_ _ | refine blk_drew ?_ | refine blk_alloc ?_ _)); refine blk_far ?_ NB387_389.out _; (with_reducible repeat (first | refine blk_drewN ?_ _ | refine blk_drew ?_ | refine blk_alloc ?_ _)); exact BK387.out⟩, ⟨by (with_reducible repeat (first | refine blk_drewN ?_ _ | refine blk_drew ?_ | refine blk_alloc ?_ _)); refine blk_put (cs := #[.int .i64 ((rd_T73 l1_7 x14_1).f0), .int .i64 ((rd_T73 l1_7 x14_1).f1), .int .i64 ((rd_T73 l1_7 x14_1).f2), .int .i64 0]) ?_ 3 _ rfl; (with_reducible repeat (first | refine blk_drewN ?_ _ | refine blk_drew ?_ | refine blk_alloc ?_ _)); refine blk_put (cs := #[.int .i64 ((rd_T73 l1_7 x14_1).f0), .int .i64 ((rd_T73 l1_7 x14_1).f1), .int .i64 0, .int .i64 0]) ?_ 2 _ rfl; (with_reducible repeat (first | refine blk_drewN ?_ _ | refine blk_drew ?_ | refine blk_alloc ?_ _)); refine blk_put (cs := #[.int .i64 ((rd_T73 l1_7 x14_1).f0), .int .i64 0, .int .i64 0, .int .i64 0]) ?_ 1 _ rfl; (with_reducible repeat (first | refine blk_drewN ?_ _ | refine blk_drew ?_ | refine blk_alloc ?_ _)); refine blk_put (cs := #[.int .i64 0, .int .i64 0, .int .i64 0, .int .i64 0]) ?_ 0 _ rfl; (with_reducible repeat (first | refine blk_drewN ?_ _ | refine blk_drew ?_ | refine blk_alloc ?_ _)); exact BK389.out⟩, ⟨by repeat (first | (with_reducible first | exact HB.out | apply below_alloc | apply pw_below_drewN | apply below_drew1 | refine below_set ?_ GE386.out | refine below_set ?_ GE387.out | refine below_set ?_ GE389.out) | exact HB.out)⟩⟩
                    · rw [if_neg c30] at H
                      have c30b0 : decide (((rd_T73 l1_7 x14_1).f2) < 0) = false := decide_eq_false c30
                      clear c30
                      have H' := Aside0.mk H
                      clear H
                      have hnb36 := NB389_386.out
                      have hnc36 := NB386_389.out
                      have hnb37 := NB389_387.out
                      have hnc37 := NB387_389.out
                      have hcz38_0 : w16.cell? ⟨gb389, 0, none⟩ = some (.int .i64 0) := (blk_cell BK389.out 0).trans rfl
                      have hcz38_1 : w16.cell? ⟨gb389, 1, none⟩ = some (.int .i64 0) := (blk_cell BK389.out 1).trans rfl
                      have hcz38_2 : w16.cell? ⟨gb389, 2, none⟩ = some (.int .i64 0) := (blk_cell BK389.out 2).trans rfl
                      have hcz38_3 : w16.cell? ⟨gb389, 3, none⟩ = some (.int .i64 0) := (blk_cell BK389.out 3).trans rfl
                      have hfz38_0 := blk_frozen BK389.out 0
                      have hfz38_1 := blk_frozen BK389.out 1
                      have hfz38_2 := blk_frozen BK389.out 2
                      have hfz38_3 := blk_frozen BK389.out 3
                      have hnb39 := NB387_386.out
                      have hnc39 := NB386_387.out
                      have hcz40_0 : w16.cell? ⟨gb387, 0, none⟩ = some (.int .i64 a1_0) := (blk_cell BK387.out 0).trans rfl
                      have hcz40_1 : w16.cell? ⟨gb387, 1, none⟩ = some (.int .i64 a1_1) := (blk_cell BK387.out 1).trans rfl
                      have hcz40_2 : w16.cell? ⟨gb387, 2, none⟩ = some (.slice A1_2 l1_2.length c1_2) := (blk_cell BK387.out 2).trans rfl
                      have hcz40_3 : w16.cell? ⟨gb387, 3, none⟩ = some (.int .i64 a1_3) := (blk_cell BK387.out 3).trans rfl
                      have hcz40_4 : w16.cell? ⟨gb387, 4, none⟩ = some (.int .i64 a1_4) := (blk_cell BK387.out 4).trans rfl
                      have hcz40_5 : w16.cell? ⟨gb387, 5, none⟩ = some (.slice A1_5 l1_5.length c1_5) := (blk_cell BK387.out 5).trans rfl
                      have hcz40_6 : w16.cell? ⟨gb387, 6, none⟩ = some (.slice A1_6 l1_6.length c1_6) := (blk_cell BK387.out 6).trans rfl
                      have hcz40_7 : w16.cell? ⟨gb387, 7, none⟩ = some (.slice (some ad388) l1_7.length c1_7) := (blk_cell BK387.out 7).trans rfl
                      have hfz40_0 := blk_frozen BK387.out 0
                      have hfz40_1 := blk_frozen BK387.out 1
                      have hfz40_2 := blk_frozen BK387.out 2
                      have hfz40_3 := blk_frozen BK387.out 3
                      have hfz40_4 := blk_frozen BK387.out 4
                      have hfz40_5 := blk_frozen BK387.out 5
                      have hfz40_6 := blk_frozen BK387.out 6
                      have hfz40_7 := blk_frozen BK387.out 7
                      go_wp2
                      go_meet
                      case rel => exact ⟨_, (decide (((rd_T73 l1_7 x14_1).f2) ≥ (l1_5.length : Int))), (by first | rfl | (simp; done) | (simp [*]; done)), H', ⟨by have := HK1.out; first | omega | exact Nat.le_refl _⟩, ⟨by (with_reducible repeat (first | refine blk_drewN ?_ _ | refine blk_drew ?_ | refine blk_alloc ?_ _)); refine blk_far ?_ NB386_389.out _; (with_reducible repeat (first | refine blk_drewN ?_ _ | refine blk_drew ?_ | refine blk_alloc ?_ _)); refine blk_far ?_ NB386_389.out _; (with_reducible repeat (first | refine blk_drewN ?_ _ | refine blk_drew ?_ | refine blk_alloc ?_ _)); refine blk_far ?_ NB386_389.out _; (with_reducible repeat (first | refine blk_drewN ?_ _ | refine blk_drew ?_ | refine blk_alloc ?_ _)); refine blk_far ?_ NB386_389.out _; (with_reducible repeat (first | refine blk_drewN ?_ _ | refine blk_drew ?_ | refine blk_alloc ?_ _)); exact BK386.out⟩, ⟨by (with_reducible repeat (first | refine blk_drewN ?_ _ | refine blk_drew ?_ | refine blk_alloc ?_ _)); refine blk_far ?_ NB387_389.out _; (with_reducible repeat (first | refine blk_drewN ?_ _ | refine blk_drew ?_ | refine blk_alloc ?_ _)); refine blk_far ?_ NB387_389.out _; (with_reducible repeat (first | refine blk_drewN ?_ _ | refine blk_drew ?_ | refine blk_alloc ?_ _)); refine blk_far ?_ NB387_389.out _; (with_reducible repeat (first | refine blk_drewN ?_ _ | refine blk_drew ?_ | refine blk_alloc ?_ _)); refine blk_far ?_ NB387_389.out _; (with_reducible repeat (first | refine blk_drewN ?_ _ | refine blk_drew ?_ | refine blk_alloc ?_ _)); exact BK387.out⟩, ⟨by (with_reducible repeat (first | refine blk_drewN ?_ _ | refine blk_drew ?_ | refine blk_alloc ?_ _)); refine blk_put (cs := #[.int .i64 ((rd_T73 l1_7 x14_1).f0), .int .i64 ((rd_T73 l1_7 x14_1).f1), .int .i64 ((rd_T73 l1_7 x14_1).f2), .int .i64 0]) ?_ 3 _ rfl; (with_reducible repeat (first | refine blk_drewN ?_ _ | refine blk_drew ?_ | refine blk_alloc ?_ _)); refine blk_put (cs := #[.int .i64 ((rd_T73 l1_7 x14_1).f0), .int .i64 ((rd_T73 l1_7 x14_1).f1), .int .i64 0, .int .i64 0]) ?_ 2 _ rfl; (with_reducible repeat (first | refine blk_drewN ?_ _ | refine blk_drew ?_ | refine blk_alloc ?_ _)); refine blk_put (cs := #[.int .i64 ((rd_T73 l1_7 x14_1).f0), .int .i64 0, .int .i64 0, .int .i64 0]) ?_ 1 _ rfl; (with_reducible repeat (first | refine blk_drewN ?_ _ | refine blk_drew ?_ | refine blk_alloc ?_ _)); refine blk_put (cs := #[.int .i64 0, .int .i64 0, .int .i64 0, .int .i64 0]) ?_ 0 _ rfl; (with_reducible repeat (first | refine blk_drewN ?_ _ | refine blk_drew ?_ | refine blk_alloc ?_ _)); exact BK389.out⟩, ⟨by repeat (first | (with_reducible first | exact HB.out | apply below_alloc | apply pw_below_drewN | apply below_drew1 | refine below_set ?_ GE386.out | refine below_set ?_ GE387.out | refine below_set ?_ GE389.out) | exact HB.out)⟩⟩
              case rest =>
                clear HC15
                try clear c1
                try clear c2
                try clear p2
                try clear c3
                try clear c3b0
                try clear c3b1
                try clear p3
                try clear q3
                try clear hx3
                try clear c6
                try clear c10
                try clear c12
                try clear c12b0
                try clear c13
                try clear c13b0
                try clear c14
                try clear c14b0
                try clear c17
                try clear c18
                try clear c20
                try clear c20b0
                try clear c21
                try clear c22
                try clear c24
                try clear c24b0
                try clear c25
                try clear c26
                try clear c28
                try clear c30
                try clear c30b0
                try clear c31
                try clear c32
                try clear c34
                try clear c36
                try clear c37
                try clear p38
                try clear q38
                try clear hx38
                try clear c39
                try clear hcz11_0
                try clear hcz11_1
                try clear hcz11_2
                try clear hcz11_3
                try clear hcz11_4
                try clear hcz11_5
                try clear hcz11_6
                try clear hcz11_7
                try clear hcz19_0
                try clear hcz19_1
                try clear hcz19_2
                try clear hcz19_3
                try clear hcz23_0
                try clear hcz23_1
                try clear hcz23_2
                try clear hcz23_3
                try clear hcz27_0
                try clear hcz27_1
                try clear hcz27_2
                try clear hcz27_3
                try clear hcz29_0
                try clear hcz29_1
                try clear hcz29_2
                try clear hcz29_3
                try clear hcz29_4
                try clear hcz29_5
                try clear hcz29_6
                try clear hcz29_7
                try clear hcz33_0
                try clear hcz33_1
                try clear hcz33_2
                try clear hcz33_3
                try clear hcz35_0
                try clear hcz35_1
                try clear hcz35_2
                try clear hcz35_3
                try clear hcz35_4
                try clear hcz35_5
                try clear hcz35_6
                try clear hcz35_7
                try clear hcz38_0
                try clear hcz38_1
                try clear hcz38_2
                try clear hcz38_3
                try clear hcz40_0
                try clear hcz40_1
                try clear hcz40_2
                try clear hcz40_3
                try clear hcz40_4
                try clear hcz40_5
                try clear hcz40_6
                try clear hcz40_7
                try clear hcz7_0
                try clear hcz7_1
                try clear hcz7_2
                try clear hcz7_3
                try clear hcz7_4
                try clear hcz7_5
                try clear hcz7_6
                try clear hcz7_7
                try clear hfz11_0
                try clear hfz11_1
                try clear hfz11_2
                try clear hfz11_3
                try clear hfz11_4
                try clear hfz11_5
                try clear hfz11_6
                try clear hfz11_7
                try clear hfz19_0
                try clear hfz19_1
                try clear hfz19_2
                try clear hfz19_3
                try clear hfz23_0
                try clear hfz23_1
                try clear hfz23_2
                try clear hfz23_3
                try clear hfz27_0
                try clear hfz27_1
                try clear hfz27_2
                try clear hfz27_3
                try clear hfz29_0
                try clear hfz29_1
                try clear hfz29_2
                try clear hfz29_3
                try clear hfz29_4
                try clear hfz29_5
                try clear hfz29_6
                try clear hfz29_7
                try clear hfz33_0
                try clear hfz33_1
                try clear hfz33_2
                try clear hfz33_3
                try clear hfz35_0
                try clear hfz35_1
                try clear hfz35_2
                try clear hfz35_3
                try clear hfz35_4
                try clear hfz35_5
                try clear hfz35_6
                try clear hfz35_7
                try clear hfz38_0
                try clear hfz38_1
                try clear hfz38_2
                try clear hfz38_3
                try clear hfz40_0
                try clear hfz40_1
                try clear hfz40_2
                try clear hfz40_3
                try clear hfz40_4
                try clear hfz40_5
                try clear hfz40_6
                try clear hfz40_7
                try clear hfz7_0
                try clear hfz7_1
                try clear hfz7_2
                try clear hfz7_3
                try clear hfz7_4
                try clear hfz7_5
                try clear hfz7_6
                try clear hfz7_7
                try clear hx388_0
                try clear hx388_1
                try clear hx388_2
                try clear hx388_3
                try clear p2
                try clear p388
                try clear q388
                obtain ⟨kq, x41_14, rfl, HA, HJ14, BK386, BK387, BK389, HB⟩ := hcut
                cases kq with
                | zero => exact absurd HA.out (by simp [impl_catchesOk.j1])
                | succ kj14 =>
                  have H := HA.out
                  clear HA
                  simp only [impl_catchesOk.j1] at H
                  by_cases c41 : x41_14 = true
                  · subst c41
                    have H1 : (some false) = some r := by rw [if_pos rfl] at H; exact H
                    clear H
                    have H := H1
                    clear H1
                    obtain rfl := Option.some.inj H
                    simp only [Option.some.injEq, Prod.mk.injEq] at H
                    obtain ⟨rfl⟩ := H
                    go_wp2
                    go_ret
                    exact ⟨by first | rfl | (simp [errW_none, errW_some] <;> rfl) | (simp [*, errW_none, errW_some] <;> rfl), by repeat (first | (with_reducible first | exact HB.out | apply below_alloc | apply pw_below_drewN | apply below_drew1 | refine below_set ?_ GE386.out | refine below_set ?_ GE387.out | refine below_set ?_ GE389.out) | exact HB.out)⟩
                  · replace c41 := Bool.eq_false_iff.mpr c41
                    subst c41
                    have H1 : (if ((rd_T73 l1_7 x14_1).f1) ≤ ((rd_T73 l1_7 x14_1).f0) then (impl_catchesOk.j2 kj14 l1_7 (l1_7.length : Int) x14_1 true l0_0 l0_1 a1_0 a1_1 l1_2 a1_3 a1_4 l1_5 l1_6 l1_7 ((rd_T73 l1_7 x14_1).f0) ((rd_T73 l1_7 x14_1).f1) ((rd_T73 l1_7 x14_1).f2) ((rd_T73 l1_7 x14_1).f3)) else (impl_catchesOk.j2 kj14 l1_7 (l1_7.length : Int) x14_1 (decide (((rd_T73 l1_7 x14_1).f1) > (l1_5.length : Int))) l0_0 l0_1 a1_0 a1_1 l1_2 a1_3 a1_4 l1_5 l1_6 l1_7 ((rd_T73 l1_7 x14_1).f0) ((rd_T73 l1_7 x14_1).f1) ((rd_T73 l1_7 x14_1).f2) ((rd_T73 l1_7 x14_1).f3))) = some r := by rw [if_neg (show ¬ (false = true) by decide)] at H; exact H
                    clear H
                    have H := H1
                    clear H1
                    have HC42 := Aside0.mk H
                    clear H
                    go_upto_region 8 with (fail)
                    go_cut [54] (fun v54 wc => ∃ (kq : Nat) (x54_41 : Bool), v54 = .bool x54_41 ∧ Aside0 (impl_catchesOk.j2 kq l1_7 (l1_7.length : Int) x14_1 x54_41 l0_0 l0_1 a1_0 a1_1 l1_2 a1_3 a1_4 l1_5 l1_6 l1_7 ((rd_T73 l1_7 x14_1).f0) ((rd_T73 l1_7 x14_1).f1) ((rd_T73 l1_7 x14_1).f2) ((rd_T73 l1_7 x14_1).f3) = some r) ∧ Aside0 (kq ≤ kj14) ∧ Aside0 (wc.heap[gb386]? = some (.cells #[(.slice A0_0 l0_0.length c0_0), (.slice A0_1 l0_1.length c0_1)] 31 (0, 0))) ∧ Aside0 (wc.heap[gb387]? = some (.cells #[.int .i64 a1_0, .int .i64 a1_1, (.slice A1_2 l1_2.length c1_2), .int .i64 a1_3, .int .i64 a1_4, (.slice A1_5 l1_5.length c1_5), (.slice A1_6 l1_6.length c1_6), (.slice (some ad388) l1_7.length c1_7)] 46 (0, 0))) ∧ Aside0 (wc.heap[gb389]? = some (.cells #[.int .i64 ((rd_T73 l1_7 x14_1).f0), .int .i64 ((rd_T73 l1_7 x14_1).f1), .int .i64 ((rd_T73 l1_7 x14_1).f2), .int .i64 ((rd_T73 l1_7 x14_1).f3)] 73 (0, 0))) ∧ Aside0 (Below w.heap.size w wc))
                    case first =>
                      have H := HC42.out
                      clear HC42
                      by_cases c43 : ((rd_T73 l1_7 x14_1).f1) ≤ ((rd_T73 l1_7 x14_1).f0)
                      · rw [if_pos c43] at H
                        have c43b0 : decide (((rd_T73 l1_7 x14_1).f1) ≤ ((rd_T73 l1_7 x14_1).f0)) = true := decide_eq_true c43
                        clear c43
                        (first | rw [c43b0] | (simp only [i64_w, i32_w]; rw [c43b0]) | skip)
                        have H' := Aside0.mk H
                        clear H
                        have hnb44 := NB389_386.out
                        have hnc44 := NB386_389.out
                        have hnb45 := NB389_387.out
                        have hnc45 := NB387_389.out
                        have hcz46_0 : wc.cell? ⟨gb389, 0, none⟩ = some (.int .i64 ((rd_T73 l1_7 x14_1).f0)) := (blk_cell BK389.out 0).trans rfl
                        have hcz46_1 : wc.cell? ⟨gb389, 1, none⟩ = some (.int .i64 ((rd_T73 l1_7 x14_1).f1)) := (blk_cell BK389.out 1).trans rfl
                        have hcz46_2 : wc.cell? ⟨gb389, 2, none⟩ = some (.int .i64 ((rd_T73 l1_7 x14_1).f2)) := (blk_cell BK389.out 2).trans rfl
                        have hcz46_3 : wc.cell? ⟨gb389, 3, none⟩ = some (.int .i64 ((rd_T73 l1_7 x14_1).f3)) := (blk_cell BK389.out 3).trans rfl
                        have hfz46_0 := blk_frozen BK389.out 0
                        have hfz46_1 := blk_frozen BK389.out 1
                        have hfz46_2 := blk_frozen BK389.out 2
                        have hfz46_3 := blk_frozen BK389.out 3
                        go_wp2
                        go_meet
                        case rel => exact ⟨_, (true), (by first | rfl | (simp; done) | (simp [*]; done)), H', ⟨by have := HK1.out; have := HJ14.out; first | omega | exact Nat.le_refl _⟩, ⟨by (with_reducible repeat (first | refine blk_drewN ?_ _ | refine blk_drew ?_ | refine blk_alloc ?_ _)); exact BK386.out⟩, ⟨by (with_reducible repeat (first | refine blk_drewN ?_ _ | refine blk_drew ?_ | refine blk_alloc ?_ _)); exact BK387.out⟩, ⟨by (with_reducible repeat (first | refine blk_drewN ?_ _ | refine blk_drew ?_ | refine blk_alloc ?_ _)); exact BK389.out⟩, ⟨by repeat (first | (with_reducible first | exact HB.out | apply below_alloc | apply pw_below_drewN | apply below_drew1 | refine below_set ?_ GE386.out | refine below_set ?_ GE387.out | refine below_set ?_ GE389.out) | exact HB.out)⟩⟩
                      · rw [if_neg c43] at H
                        have c43b0 : decide (((rd_T73 l1_7 x14_1).f1) ≤ ((rd_T73 l1_7 x14_1).f0)) = false := decide_eq_false c43
                        clear c43
                        (first | rw [c43b0] | (simp only [i64_w, i32_w]; rw [c43b0]) | skip)
                        have H' := Aside0.mk H
                        clear H
                        have hnb47 := NB389_386.out
                        have hnc47 := NB386_389.out
                        have hnb48 := NB389_387.out
                        have hnc48 := NB387_389.out
                        have hcz49_0 : wc.cell? ⟨gb389, 0, none⟩ = some (.int .i64 ((rd_T73 l1_7 x14_1).f0)) := (blk_cell BK389.out 0).trans rfl
                        have hcz49_1 : wc.cell? ⟨gb389, 1, none⟩ = some (.int .i64 ((rd_T73 l1_7 x14_1).f1)) := (blk_cell BK389.out 1).trans rfl
                        have hcz49_2 : wc.cell? ⟨gb389, 2, none⟩ = some (.int .i64 ((rd_T73 l1_7 x14_1).f2)) := (blk_cell BK389.out 2).trans rfl
                        have hcz49_3 : wc.cell? ⟨gb389, 3, none⟩ = some (.int .i64 ((rd_T73 l1_7 x14_1).f3)) := (blk_cell BK389.out 3).trans rfl
                        have hfz49_0 := blk_frozen BK389.out 0
                        have hfz49_1 := blk_frozen BK389.out 1
                        have hfz49_2 := blk_frozen BK389.out 2
                        have hfz49_3 := blk_frozen BK389.out 3
                        have hnb50 := NB387_386.out
                        have hnc50 := NB386_387.out
                        have hcz51_0 : wc.cell? ⟨gb387, 0, none⟩ = some (.int .i64 a1_0) := (blk_cell BK387.out 0).trans rfl
                        have hcz51_1 : wc.cell? ⟨gb387, 1, none⟩ = some (.int .i64 a1_1) := (blk_cell BK387.out 1).trans rfl
                        have hcz51_2 : wc.cell? ⟨gb387, 2, none⟩ = some (.slice A1_2 l1_2.length c1_2) := (blk_cell BK387.out 2).trans rfl
                        have hcz51_3 : wc.cell? ⟨gb387, 3, none⟩ = some (.int .i64 a1_3) := (blk_cell BK387.out 3).trans rfl
                        have hcz51_4 : wc.cell? ⟨gb387, 4, none⟩ = some (.int .i64 a1_4) := (blk_cell BK387.out 4).trans rfl
                        have hcz51_5 : wc.cell? ⟨gb387, 5, none⟩ = some (.slice A1_5 l1_5.length c1_5) := (blk_cell BK387.out 5).trans rfl
                        have hcz51_6 : wc.cell? ⟨gb387, 6, none⟩ = some (.slice A1_6 l1_6.length c1_6) := (blk_cell BK387.out 6).trans rfl
                        have hcz51_7 : wc.cell? ⟨gb387, 7, none⟩ = some (.slice (some ad388) l1_7.length c1_7) := (blk_cell BK387.out 7).trans rfl
                        have hfz51_0 := blk_frozen BK387.out 0
                        have hfz51_1 := blk_frozen BK387.out 1
                        have hfz51_2 := blk_frozen BK387.out 2
                        have hfz51_3 := blk_frozen BK387.out 3
                        have hfz51_4 := blk_frozen BK387.out 4
                        have hfz51_5 := blk_frozen BK387.out 5
                        have hfz51_6 := blk_frozen BK387.out 6
                        have hfz51_7 := blk_frozen BK387.out 7
                        go_wp2
                        go_meet
                        case rel => exact ⟨_, (decide (((rd_T73 l1_7 x14_1).f1) > (l1_5.length : Int))), (by first | rfl | (simp; done) | (simp [*]; done)), H', ⟨by have := HK1.out; have := HJ14.out; first | omega | exact Nat.le_refl _⟩, ⟨by (with_reducible repeat (first | refine blk_drewN ?_ _ | refine blk_drew ?_ | refine blk_alloc ?_ _)); exact BK386.out⟩, ⟨by (with_reducible repeat (first | refine blk_drewN ?_ _ | refine blk_drew ?_ | refine blk_alloc ?_ _)); exact BK387.out⟩, ⟨by (with_reducible repeat (first | refine blk_drewN ?_ _ | refine blk_drew ?_ | refine blk_alloc ?_ _)); exact BK389.out⟩, ⟨by repeat (first | (with_reducible first | exact HB.out | apply below_alloc | apply pw_below_drewN | apply below_drew1 | refine below_set ?_ GE386.out | refine below_set ?_ GE387.out | refine below_set ?_ GE389.out) | exact HB.out)⟩⟩
                    case rest =>
                      clear HC42
                      try clear c1
                      try clear c2
                      try clear p2
                      try clear c3
                      try clear c3b0
                      try clear c3b1
                      try clear p3
                      try clear q3
                      try clear hx3
                      try clear c4
                      try clear c5
                      try clear c6
                      try clear c10
                      try clear c12
                      try clear c12b0
                      try clear c13
                      try clear c13b0
                      try clear c14
                      try clear c14b0
                      try clear c17
                      try clear c18
                      try clear c20
                      try clear c20b0
                      try clear c21
                      try clear c22
                      try clear c24
                      try clear c24b0
                      try clear c25
                      try clear c26
                      try clear c28
                      try clear c30
                      try clear c30b0
                      try clear c31
                      try clear c32
                      try clear c34
                      try clear c36
                      try clear c37
                      try clear p38
                      try clear q38
                      try clear hx38
                      try clear c39
                      try clear c41
                      try clear c43
                      try clear c43b0
                      try clear c44
                      try clear c45
                      try clear c47
                      try clear c48
                      try clear c50
                      try clear hcz11_0
                      try clear hcz11_1
                      try clear hcz11_2
                      try clear hcz11_3
                      try clear hcz11_4
                      try clear hcz11_5
                      try clear hcz11_6
                      try clear hcz11_7
                      try clear hcz19_0
                      try clear hcz19_1
                      try clear hcz19_2
                      try clear hcz19_3
                      try clear hcz23_0
                      try clear hcz23_1
                      try clear hcz23_2
                      try clear hcz23_3
                      try clear hcz27_0
                      try clear hcz27_1
                      try clear hcz27_2
                      try clear hcz27_3
                      try clear hcz29_0
                      try clear hcz29_1
                      try clear hcz29_2
                      try clear hcz29_3
                      try clear hcz29_4
                      try clear hcz29_5
                      try clear hcz29_6
                      try clear hcz29_7
                      try clear hcz33_0
                      try clear hcz33_1
                      try clear hcz33_2
                      try clear hcz33_3
                      try clear hcz35_0
                      try clear hcz35_1
                      try clear hcz35_2
                      try clear hcz35_3
                      try clear hcz35_4
                      try clear hcz35_5
                      try clear hcz35_6
                      try clear hcz35_7
                      try clear hcz38_0
                      try clear hcz38_1
                      try clear hcz38_2
                      try clear hcz38_3
                      try clear hcz40_0
                      try clear hcz40_1
                      try clear hcz40_2
                      try clear hcz40_3
                      try clear hcz40_4
                      try clear hcz40_5
                      try clear hcz40_6
                      try clear hcz40_7
                      try clear hcz46_0
                      try clear hcz46_1
                      try clear hcz46_2
                      try clear hcz46_3
                      try clear hcz49_0
                      try clear hcz49_1
                      try clear hcz49_2
                      try clear hcz49_3
                      try clear hcz51_0
                      try clear hcz51_1
                      try clear hcz51_2
                      try clear hcz51_3
                      try clear hcz51_4
                      try clear hcz51_5
                      try clear hcz51_6
                      try clear hcz51_7
                      try clear hcz7_0
                      try clear hcz7_1
                      try clear hcz7_2
                      try clear hcz7_3
                      try clear hcz7_4
                      try clear hcz7_5
                      try clear hcz7_6
                      try clear hcz7_7
                      try clear hfz11_0
                      try clear hfz11_1
                      try clear hfz11_2
                      try clear hfz11_3
                      try clear hfz11_4
                      try clear hfz11_5
                      try clear hfz11_6
                      try clear hfz11_7
                      try clear hfz19_0
                      try clear hfz19_1
                      try clear hfz19_2
                      try clear hfz19_3
                      try clear hfz23_0
                      try clear hfz23_1
                      try clear hfz23_2
                      try clear hfz23_3
                      try clear hfz27_0
                      try clear hfz27_1
                      try clear hfz27_2
                      try clear hfz27_3
                      try clear hfz29_0
                      try clear hfz29_1
                      try clear hfz29_2
                      try clear hfz29_3
                      try clear hfz29_4
                      try clear hfz29_5
                      try clear hfz29_6
                      try clear hfz29_7
                      try clear hfz33_0
                      try clear hfz33_1
                      try clear hfz33_2
                      try clear hfz33_3
                      try clear hfz35_0
                      try clear hfz35_1
                      try clear hfz35_2
                      try clear hfz35_3
                      try clear hfz35_4
                      try clear hfz35_5
                      try clear hfz35_6
                      try clear hfz35_7
                      try clear hfz38_0
                      try clear hfz38_1
                      try clear hfz38_2
                      try clear hfz38_3
                      try clear hfz40_0
                      try clear hfz40_1
                      try clear hfz40_2
                      try clear hfz40_3
                      try clear hfz40_4
                      try clear hfz40_5
                      try clear hfz40_6
                      try clear hfz40_7
                      try clear hfz46_0
                      try clear hfz46_1
                      try clear hfz46_2
                      try clear hfz46_3
                      try clear hfz49_0
                      try clear hfz49_1
                      try clear hfz49_2
                      try clear hfz49_3
                      try clear hfz51_0
                      try clear hfz51_1
                      try clear hfz51_2
                      try clear hfz51_3
                      try clear hfz51_4
                      try clear hfz51_5
                      try clear hfz51_6
                      try clear hfz51_7
                      try clear hfz7_0
                      try clear hfz7_1
                      try clear hfz7_2
                      try clear hfz7_3
                      try clear hfz7_4
                      try clear hfz7_5
                      try clear hfz7_6
                      try clear hfz7_7
                      try clear hx388_0
                      try clear hx388_1
                      try clear hx388_2
                      try clear hx388_3
                      try clear p2
                      try clear p3
                      try clear p38
                      try clear p388
                      try clear q3
                      try clear q38
                      try clear q388
                      obtain ⟨kq, x54_41, rfl, HA, HJ41, BK386, BK387, BK389, HB⟩ := hcut
                      cases kq with
                      | zero => exact absurd HA.out (by simp [impl_catchesOk.j2])
                      | succ kj41 =>
                        have H := HA.out
                        clear HA
                        simp only [impl_catchesOk.j2] at H
                        by_cases c52 : x54_41 = true
                        · subst c52
                          have H1 : (some false) = some r := by rw [if_pos rfl] at H; exact H
                          clear H
                          have H := H1
                          clear H1
                          obtain rfl := Option.some.inj H
                          simp only [Option.some.injEq, Prod.mk.injEq] at H
                          obtain ⟨rfl⟩ := H
                          go_wp2
                          go_ret
                          exact ⟨by first | rfl | (simp [errW_none, errW_some] <;> rfl) | (simp [*, errW_none, errW_some] <;> rfl), by repeat (first | (with_reducible first | exact HB.out | apply below_alloc | apply pw_below_drewN | apply below_drew1 | refine below_set ?_ GE386.out | refine below_set ?_ GE387.out | refine below_set ?_ GE389.out) | exact HB.out)⟩
                        · replace c52 := Bool.eq_false_iff.mpr c52
                          subst c52
                          have H1 : ((impl_isClass.f l0_0 ((rd_T73 l1_7 x14_1).f3)).bind fun t390 => (if t390 = true then ((impl_classUp.f kj41 l0_0 ((rd_T73 l1_7 x14_1).f3) 1).bind fun t391 => (if t391 = true then (impl_catchesOk.l0 kj41 l1_7 (l1_7.length : Int) (wrap64 (x14_1 + 1)) l0_0 l0_1 a1_0 a1_1 l1_2 a1_3 a1_4 l1_5 l1_6 l1_7) else (some false))) else (some false))) = some r := by rw [if_neg (show ¬ (false = true) by decide)] at H; exact H
                          clear H
                          have H := H1
                          clear H1
                          replace H := Option.bind_eq_some_iff.mp H
                          obtain ⟨t390, A530, H⟩ := H
                          replace H : (if t390 = true then ((impl_classUp.f kj41 l0_0 ((rd_T73 l1_7 x14_1).f3) 1).bind fun t391 => (if t391 = true then (impl_catchesOk.l0 kj41 l1_7 (l1_7.length : Int) (wrap64 (x14_1 + 1)) l0_0 l0_1 a1_0 a1_1 l1_2 a1_3 a1_4 l1_5 l1_6 l1_7) else (some false))) else (some false)) = some r := H
                          have A53 := Aside0.mk A530
                          clear A530
                          by_cases c54 : t390 = true
                          · subst c54
                            have H1 : ((impl_classUp.f kj41 l0_0 ((rd_T73 l1_7 x14_1).f3) 1).bind fun t391 => (if t391 = true then (impl_catchesOk.l0 kj41 l1_7 (l1_7.length : Int) (wrap64 (x14_1 + 1)) l0_0 l0_1 a1_0 a1_1 l1_2 a1_3 a1_4 l1_5 l1_6 l1_7) else (some false))) = some r := by rw [if_pos rfl] at H; exact H
                            clear H
                            have H := H1
                            clear H1
                            replace H := Option.bind_eq_some_iff.mp H
                            obtain ⟨t391, A550, H⟩ := H
                            replace H : (if t391 = true then (impl_catchesOk.l0 kj41 l1_7 (l1_7.length : Int) (wrap64 (x14_1 + 1)) l0_0 l0_1 a1_0 a1_1 l1_2 a1_3 a1_4 l1_5 l1_6 l1_7) else (some false)) = some r := H
                            have A55 := Aside0.mk A550
                            clear A550
                            by_cases c56 : t391 = true
                            · subst c56
                              have H1 : (impl_catchesOk.l0 kj41 l1_7 (l1_7.length : Int) (wrap64 (x14_1 + 1)) l0_0 l0_1 a1_0 a1_1 l1_2 a1_3 a1_4 l1_5 l1_6 l1_7) = some r := by rw [if_pos rfl] at H; exact H
                              clear H
                              have H := H1
                              clear H1
                              have H' := Aside0.mk H
                              clear H
                              have hnb57 := NB386_387.out
                              have hnc57 := NB387_386.out
                              have hnb58 := NB386_389.out
                              have hnc58 := NB389_386.out
                              have hcz59_0 : wc.cell? ⟨gb386, 0, none⟩ = some (.slice A0_0 l0_0.length c0_0) := (blk_cell BK386.out 0).trans rfl
                              have hcz59_1 : wc.cell? ⟨gb386, 1, none⟩ = some (.slice A0_1 l0_1.length c0_1) := (blk_cell BK386.out 1).trans rfl
                              have hfz59_0 := blk_frozen BK386.out 0
                              have hfz59_1 := blk_frozen BK386.out 1
                              have hnb60 := NB389_387.out
                              have hnc60 := NB387_389.out
                              have hcz61_0 : wc.cell? ⟨gb389, 0, none⟩ = some (.int .i64 ((rd_T73 l1_7 x14_1).f0)) := (blk_cell BK389.out 0).trans rfl
                              have hcz61_1 : wc.cell? ⟨gb389, 1, none⟩ = some (.int .i64 ((rd_T73 l1_7 x14_1).f1)) := (blk_cell BK389.out 1).trans rfl
                              have hcz61_2 : wc.cell? ⟨gb389, 2, none⟩ = some (.int .i64 ((rd_T73 l1_7 x14_1).f2)) := (blk_cell BK389.out 2).trans rfl
                              have hcz61_3 : wc.cell? ⟨gb389, 3, none⟩ = some (.int .i64 ((rd_T73 l1_7 x14_1).f3)) := (blk_cell BK389.out 3).trans rfl
                              have hfz61_0 := blk_frozen BK389.out 0
                              have hfz61_1 := blk_frozen BK389.out 1
                              have hfz61_2 := blk_frozen BK389.out 2
                              have hfz61_3 := blk_frozen BK389.out 3
                              go_wp2_with (first | ((with_reducible refine gate_callee (f := 29) rfl ?_); refine goesL_ (some 59) rfl rfl Try.func29 (by kernel_rfl) rfl #[.slice A0_0 l0_0.length c0_0, .int .i64 ((rd_T73 l1_7 x14_1).f3)] rfl (by (try simp only [List.map_toArray, List.map_cons, List.map_nil]); first | done | rfl | (simp only [List.length_drop, List.length_take]; rfl)) ?_; (with_reducible refine (impl_isClass.calls _ _ l0_0 ((rd_T73 l1_7 x14_1).f3) true _ ?side1 ?side2 A53.out).mono ?_); (case side1 => repeat (first | exact (Kd.C_below HR0_0.out HB.out) | (with_reducible refine Kd.C_alloc ?_ _) | (with_reducible refine Kd.C_drewN ?_ _) | (with_reducible refine Kd.C_drew ?_))); (case side2 => exact HC0_0.out); rintro e w' ⟨rfl, ⟨nd, rfl⟩⟩; refine ⟨_, rfl, ?_⟩) | (go_at_call 46; (with_reducible refine (impl_classUp.calls kj41 _ _ l0_0 ((rd_T73 l1_7 x14_1).f3) 1 true _ ?side1 ?side2 A55.out).mono ?_); (case side1 => repeat (first | exact (Kd.C_below HR0_0.out (by repeat (first | (with_reducible first | exact HB.out | apply below_alloc | apply pw_below_drewN | apply below_drew1 | refine below_set ?_ GE386.out | refine below_set ?_ GE387.out | refine below_set ?_ GE389.out) | exact HB.out))) | (with_reducible refine Kd.C_alloc ?_ _) | (with_reducible refine Kd.C_drewN ?_ _) | (with_reducible refine Kd.C_drew ?_))); (case side2 => exact HC0_0.out); rintro e w' ⟨rfl, ⟨nd, rfl⟩⟩))
                              go_roundg kj41
                              case measure => have := HK1.out; have := HJ14.out; have := HJ41.out; omega
                              case rel => exact ⟨(wrap64 (x14_1 + 1)), (by first | rfl | (simp; done) | (simp [*]; done)), H', ⟨by have := HK1.out; have := HJ14.out; have := HJ41.out; omega⟩, ⟨by (with_reducible repeat (first | refine blk_drewN ?_ _ | refine blk_drew ?_ | refine blk_alloc ?_ _)); exact BK386.out⟩, ⟨by (with_reducible repeat (first | refine blk_drewN ?_ _ | refine blk_drew ?_ | refine blk_alloc ?_ _)); exact BK387.out⟩, ⟨by repeat (first | (with_reducible first | exact HB.out | apply below_alloc | apply pw_below_drewN | apply below_drew1 | refine below_set ?_ GE386.out | refine below_set ?_ GE387.out | refine below_set ?_ GE389.out) | exact HB.out)⟩⟩
                            · replace c56 := Bool.eq_false_iff.mpr c56
                              subst c56
                              have H1 : (some false) = some r := by rw [if_neg (show ¬ (false = true) by decide)] at H; exact H
                              clear H
                              have H := H1
                              clear H1
                              obtain rfl := Option.some.inj H
                              simp only [Option.some.injEq, Prod.mk.injEq] at H
                              obtain ⟨rfl⟩ := H
                              have hnb62 := NB386_387.out
                              have hnc62 := NB387_386.out
                              have hnb63 := NB386_389.out
                              have hnc63 := NB389_386.out
                              have hcz64_0 : wc.cell? ⟨gb386, 0, none⟩ = some (.slice A0_0 l0_0.length c0_0) := (blk_cell BK386.out 0).trans rfl
                              have hcz64_1 : wc.cell? ⟨gb386, 1, none⟩ = some (.slice A0_1 l0_1.length c0_1) := (blk_cell BK386.out 1).trans rfl
                              have hfz64_0 := blk_frozen BK386.out 0
                              have hfz64_1 := blk_frozen BK386.out 1
                              have hnb65 := NB389_387.out
                              have hnc65 := NB387_389.out
                              have hcz66_0 : wc.cell? ⟨gb389, 0, none⟩ = some (.int .i64 ((rd_T73 l1_7 x14_1).f0)) := (blk_cell BK389.out 0).trans rfl
                              have hcz66_1 : wc.cell? ⟨gb389, 1, none⟩ = some (.int .i64 ((rd_T73 l1_7 x14_1).f1)) := (blk_cell BK389.out 1).trans rfl
                              have hcz66_2 : wc.cell? ⟨gb389, 2, none⟩ = some (.int .i64 ((rd_T73 l1_7 x14_1).f2)) := (blk_cell BK389.out 2).trans rfl
                              have hcz66_3 : wc.cell? ⟨gb389, 3, none⟩ = some (.int .i64 ((rd_T73 l1_7 x14_1).f3)) := (blk_cell BK389.out 3).trans rfl
                              have hfz66_0 := blk_frozen BK389.out 0
                              have hfz66_1 := blk_frozen BK389.out 1
                              have hfz66_2 := blk_frozen BK389.out 2
                              have hfz66_3 := blk_frozen BK389.out 3
                              go_wp2_with (first | ((with_reducible refine gate_callee (f := 29) rfl ?_); refine goesL_ (some 59) rfl rfl Try.func29 (by kernel_rfl) rfl #[.slice A0_0 l0_0.length c0_0, .int .i64 ((rd_T73 l1_7 x14_1).f3)] rfl (by (try simp only [List.map_toArray, List.map_cons, List.map_nil]); first | done | rfl | (simp only [List.length_drop, List.length_take]; rfl)) ?_; (with_reducible refine (impl_isClass.calls _ _ l0_0 ((rd_T73 l1_7 x14_1).f3) true _ ?side1 ?side2 A53.out).mono ?_); (case side1 => repeat (first | exact (Kd.C_below HR0_0.out HB.out) | (with_reducible refine Kd.C_alloc ?_ _) | (with_reducible refine Kd.C_drewN ?_ _) | (with_reducible refine Kd.C_drew ?_))); (case side2 => exact HC0_0.out); rintro e w' ⟨rfl, ⟨nd, rfl⟩⟩; refine ⟨_, rfl, ?_⟩) | (go_at_call 46; (with_reducible refine (impl_classUp.calls kj41 _ _ l0_0 ((rd_T73 l1_7 x14_1).f3) 1 false _ ?side1 ?side2 A55.out).mono ?_); (case side1 => repeat (first | exact (Kd.C_below HR0_0.out (by repeat (first | (with_reducible first | exact HB.out | apply below_alloc | apply pw_below_drewN | apply below_drew1 | refine below_set ?_ GE386.out | refine below_set ?_ GE387.out | refine below_set ?_ GE389.out) | exact HB.out))) | (with_reducible refine Kd.C_alloc ?_ _) | (with_reducible refine Kd.C_drewN ?_ _) | (with_reducible refine Kd.C_drew ?_))); (case side2 => exact HC0_0.out); rintro e w' ⟨rfl, ⟨nd, rfl⟩⟩))
                              go_ret
                              exact ⟨by first | rfl | (simp [errW_none, errW_some] <;> rfl) | (simp [*, errW_none, errW_some] <;> rfl), by repeat (first | (with_reducible first | exact HB.out | apply below_alloc | apply pw_below_drewN | apply below_drew1 | refine below_set ?_ GE386.out | refine below_set ?_ GE387.out | refine below_set ?_ GE389.out) | exact HB.out)⟩
                          · replace c54 := Bool.eq_false_iff.mpr c54
                            subst c54
                            have H1 : (some false) = some r := by rw [if_neg (show ¬ (false = true) by decide)] at H; exact H
                            clear H
                            have H := H1
                            clear H1
                            obtain rfl := Option.some.inj H
                            simp only [Option.some.injEq, Prod.mk.injEq] at H
                            obtain ⟨rfl⟩ := H
                            have hnb67 := NB386_387.out
                            have hnc67 := NB387_386.out
                            have hnb68 := NB386_389.out
                            have hnc68 := NB389_386.out
                            have hcz69_0 : wc.cell? ⟨gb386, 0, none⟩ = some (.slice A0_0 l0_0.length c0_0) := (blk_cell BK386.out 0).trans rfl
                            have hcz69_1 : wc.cell? ⟨gb386, 1, none⟩ = some (.slice A0_1 l0_1.length c0_1) := (blk_cell BK386.out 1).trans rfl
                            have hfz69_0 := blk_frozen BK386.out 0
                            have hfz69_1 := blk_frozen BK386.out 1
                            have hnb70 := NB389_387.out
                            have hnc70 := NB387_389.out
                            have hcz71_0 : wc.cell? ⟨gb389, 0, none⟩ = some (.int .i64 ((rd_T73 l1_7 x14_1).f0)) := (blk_cell BK389.out 0).trans rfl
                            have hcz71_1 : wc.cell? ⟨gb389, 1, none⟩ = some (.int .i64 ((rd_T73 l1_7 x14_1).f1)) := (blk_cell BK389.out 1).trans rfl
                            have hcz71_2 : wc.cell? ⟨gb389, 2, none⟩ = some (.int .i64 ((rd_T73 l1_7 x14_1).f2)) := (blk_cell BK389.out 2).trans rfl
                            have hcz71_3 : wc.cell? ⟨gb389, 3, none⟩ = some (.int .i64 ((rd_T73 l1_7 x14_1).f3)) := (blk_cell BK389.out 3).trans rfl
                            have hfz71_0 := blk_frozen BK389.out 0
                            have hfz71_1 := blk_frozen BK389.out 1
                            have hfz71_2 := blk_frozen BK389.out 2
                            have hfz71_3 := blk_frozen BK389.out 3
                            go_wp2_with (first | ((with_reducible refine gate_callee (f := 29) rfl ?_); refine goesL_ (some 59) rfl rfl Try.func29 (by kernel_rfl) rfl #[.slice A0_0 l0_0.length c0_0, .int .i64 ((rd_T73 l1_7 x14_1).f3)] rfl (by (try simp only [List.map_toArray, List.map_cons, List.map_nil]); first | done | rfl | (simp only [List.length_drop, List.length_take]; rfl)) ?_; (with_reducible refine (impl_isClass.calls _ _ l0_0 ((rd_T73 l1_7 x14_1).f3) false _ ?side1 ?side2 A53.out).mono ?_); (case side1 => repeat (first | exact (Kd.C_below HR0_0.out HB.out) | (with_reducible refine Kd.C_alloc ?_ _) | (with_reducible refine Kd.C_drewN ?_ _) | (with_reducible refine Kd.C_drew ?_))); (case side2 => exact HC0_0.out); rintro e w' ⟨rfl, ⟨nd, rfl⟩⟩; refine ⟨_, rfl, ?_⟩))
                            go_ret
                            exact ⟨by first | rfl | (simp [errW_none, errW_some] <;> rfl) | (simp [*, errW_none, errW_some] <;> rfl), by repeat (first | (with_reducible first | exact HB.out | apply below_alloc | apply pw_below_drewN | apply below_drew1 | refine below_set ?_ GE386.out | refine below_set ?_ GE387.out | refine below_set ?_ GE389.out) | exact HB.out)⟩
            · rw [if_neg c14] at H
              exact absurd H (by simp)
          · rw [if_neg c13] at H
            exact absurd H (by simp)
        · rw [if_neg c12] at H
          have c12b0 : decide (x14_1 < (l1_7.length : Int)) = false := decide_eq_false c12
          clear c12
          obtain rfl := Option.some.inj H
          simp only [Option.some.injEq, Prod.mk.injEq] at H
          obtain ⟨rfl⟩ := H
          go_wp2
          go_ret
          exact ⟨by first | rfl | (simp [errW_none, errW_some] <;> rfl) | (simp [*, errW_none, errW_some] <;> rfl), by repeat (first | (with_reducible first | exact HB.out | apply below_alloc | apply pw_below_drewN | apply below_drew1 | refine below_set ?_ GE386.out | refine below_set ?_ GE387.out) | exact HB.out)⟩
end Go.Proofs.Ytedodaifpekahaa.P

end
section

namespace Go.Proofs.Ytedodaifpekahaa.P
open Go.RowKit Go.Proofs.YtedodaifpekahaaW.PrintWords Go.Proofs.YtedodaifpekahaaW.PrintLast Go.Proofs.YtedodaifpekahaaW.PrintMore
attribute [local go_sem] max2_int min2_int max_two min_two max_three min_three max_four min_four
set_option linter.unusedVariables false
set_option linter.unusedSimpArgs false
set_option maxHeartbeats 8000000 in
set_option maxRecDepth 100000 in
theorem slices_Equal_int_int.calls (k : Nat) (A0 : Option Addr) (c0 : Nat) (l0 : List Int) (A1 : Option Addr) (c1 : Nat) (l1 : List Int) (r : Bool) (w : World) (hr0 : Kd.C (Kd.int .i64) w A0 l0.length l0) (hc0 : l0.length ≤ c0) (hr1 : Kd.C (Kd.int .i64) w A1 l1.length l1) (hc1 : l1.length ≤ c1) (h : slices_Equal_int_int.f k l0 l1 = some r) :
    Calls Try.prog 47 #[.slice A0 l0.length c0, .slice A1 l1.length c1] w fun e w' => e = .returned (.bool r) ∧ Drawn0 w w' := by
  have HR0 := Aside0.mk hr0
  have HC0 := Aside0.mk hc0
  clear hr0 hc0
  have HR1 := Aside0.mk hr1
  have HC1 := Aside0.mk hc1
  clear hr1 hc1
  have H : (if (l0.length : Int) = (l1.length : Int) then (slices_Equal_int_int.l0 k l0 l1 (l0.length : Int) 0) else (some false)) = some r := h
  clear h
  by_cases c3 : (l0.length : Int) = (l1.length : Int)
  · rw [if_pos c3] at H
    have c3b0 : ((l0.length : Int) == (l1.length : Int)) = true := beq_iff_eq.mpr c3
    have c3b1 : ((l0.length : Int) != (l1.length : Int)) = false := bne_eq_false_iff_eq.mpr c3
    have c3b2 : (l0.length == l1.length) = true := by first | simpa using c3 | (simp at c3 ⊢; omega)
    clear c3
    have H' := Aside0.mk H
    clear H
    go_enter Try.func47, Try.ntmps47
    go_wp2
    repeat (go_quiet (fail); try go_wp2)
    go_loopg [13] k (fun kq v13 w' => ∃ (x13_1 : Int), v13 = .int .i64 x13_1 ∧ Aside0 (slices_Equal_int_int.l0 kq l0 l1 (l0.length : Int) x13_1 = some r) ∧ Aside0 (kq ≤ k) ∧ Drawn0 w w')
    case atStart => exact ⟨(0), (by first | rfl | (simp; done) | (simp [*]; done)), H', ⟨Nat.le_refl _⟩, by repeat (first | exact Drawn0.refl _ | apply Drawn0.step)⟩
    case round =>
      clear H'
      try clear c1
      try clear p2
      try clear c3
      try clear c3b0
      try clear c3b1
      try clear c3b2
      obtain ⟨x13_1, rfl, HA, HK1, ⟨m1, rfl⟩⟩ := hrel
      cases gk with
      | zero => exact absurd HA.out (by simp [slices_Equal_int_int.l0])
      | succ k1 =>
        have H := HA.out
        clear HA
        simp only [slices_Equal_int_int.l0] at H
        by_cases c4 : x13_1 < (l0.length : Int)
        · rw [if_pos c4] at H
          have c4b0 : decide (x13_1 < (l0.length : Int)) = true := decide_eq_true c4
          clear c4
          by_cases c5 : 0 ≤ x13_1
          · rw [if_pos c5] at H
            have c5b0 : decide (0 ≤ x13_1) = true := decide_eq_true c5
            clear c5
            by_cases c6 : x13_1 < (l0.length : Int)
            · rw [if_pos c6] at H
              have c6b0 : decide (x13_1 < (l0.length : Int)) = true := decide_eq_true c6
              clear c6
              by_cases c7 : x13_1 < (l1.length : Int)
              · rw [if_pos c7] at H
                have c7b0 : decide (x13_1 < (l1.length : Int)) = true := decide_eq_true c7
                clear c7
                by_cases c8 : (rd l0 x13_1) = (rd l1 x13_1)
                · rw [if_pos c8] at H
                  have c8b0 : ((rd l0 x13_1) == (rd l1 x13_1)) = true := beq_iff_eq.mpr c8
                  have c8b1 : ((rd l0 x13_1) != (rd l1 x13_1)) = false := bne_eq_false_iff_eq.mpr c8
                  clear c8
                  have H' := Aside0.mk H
                  clear H
                  have p392 : 0 ≤ (x13_1 : Int) := of_decide_eq_true (by first | (with_reducible assumption) | assumption)
                  have q392 : x13_1 < (l0.length : Int) := of_decide_eq_true (by first | (with_reducible assumption) | assumption)
                  obtain ⟨ad392, e392, hx392_0⟩ := Kd.at_int HR0.out x13_1 p392 q392
                  cases e392
                  replace p392 := eq_true p392
                  replace q392 := eq_true q392
                  have p393 : 0 ≤ (x13_1 : Int) := of_decide_eq_true (by first | (with_reducible assumption) | assumption)
                  have q393 : x13_1 < (l1.length : Int) := of_decide_eq_true (by first | (with_reducible assumption) | assumption)
                  obtain ⟨ad393, e393, hx393_0⟩ := Kd.at_int HR1.out x13_1 p393 q393
                  cases e393
                  replace p393 := eq_true p393
                  replace q393 := eq_true q393
                  go_wp2
                  repeat (go_quiet (fail); try go_wp2)
                  go_roundg k1
                  case measure => have := HK1.out; omega
                  case rel => exact ⟨(wrap64 (x13_1 + 1)), (by first | rfl | (simp; done) | (simp [*]; done)), H', ⟨by have := HK1.out; omega⟩, by repeat (first | exact Drawn0.refl _ | apply Drawn0.step)⟩
                · rw [if_neg c8] at H
                  have c8b0 : ((rd l0 x13_1) == (rd l1 x13_1)) = false := beq_eq_false_iff_ne.mpr c8
                  have c8b1 : ((rd l0 x13_1) != (rd l1 x13_1)) = true := bne_iff_ne.mpr c8
                  obtain rfl := Option.some.inj H
                  simp only [Option.some.injEq, Prod.mk.injEq] at H
                  obtain ⟨rfl⟩ := H
                  have p392 : 0 ≤ (x13_1 : Int) := of_decide_eq_true (by first | (with_reducible assumption) | assumption)
                  have q392 : x13_1 < (l0.length : Int) := of_decide_eq_true (by first | (with_reducible assumption) | assumption)
                  obtain ⟨ad392, e392, hx392_0⟩ := Kd.at_int HR0.out x13_1 p392 q392
                  cases e392
                  replace p392 := eq_true p392
                  replace q392 := eq_true q392
                  have p393 : 0 ≤ (x13_1 : Int) := of_decide_eq_true (by first | (with_reducible assumption) | assumption)
                  have q393 : x13_1 < (l1.length : Int) := of_decide_eq_true (by first | (with_reducible assumption) | assumption)
                  obtain ⟨ad393, e393, hx393_0⟩ := Kd.at_int HR1.out x13_1 p393 q393
                  cases e393
                  replace p393 := eq_true p393
                  replace q393 := eq_true q393
                  go_wp2
                  repeat (go_quiet (fail); try go_wp2)
                  go_ret
                  exact ⟨by first | rfl | (simp; done) | (simp [*]; done), by repeat (first | exact Drawn0.refl _ | apply Drawn0.step)⟩
              · rw [if_neg c7] at H
                exact absurd H (by simp)
            · rw [if_neg c6] at H
              exact absurd H (by simp)
          · rw [if_neg c5] at H
            exact absurd H (by simp)
        · rw [if_neg c4] at H
          have c4b0 : decide (x13_1 < (l0.length : Int)) = false := decide_eq_false c4
          clear c4
          obtain rfl := Option.some.inj H
          simp only [Option.some.injEq, Prod.mk.injEq] at H
          obtain ⟨rfl⟩ := H
          go_wp2
          repeat (go_quiet (fail); try go_wp2)
          go_ret
          exact ⟨by first | rfl | (simp; done) | (simp [*]; done), by repeat (first | exact Drawn0.refl _ | apply Drawn0.step)⟩
  · rw [if_neg c3] at H
    have c3b0 : ((l0.length : Int) == (l1.length : Int)) = false := beq_eq_false_iff_ne.mpr c3
    have c3b1 : ((l0.length : Int) != (l1.length : Int)) = true := bne_iff_ne.mpr c3
    have c3b2 : (l0.length == l1.length) = false := by first | simpa using c3 | (simp at c3 ⊢; omega)
    obtain rfl := Option.some.inj H
    simp only [Option.some.injEq, Prod.mk.injEq] at H
    obtain ⟨rfl⟩ := H
    go_enter Try.func47, Try.ntmps47
    go_wp2
    repeat (go_quiet (fail); try go_wp2)
    go_ret
    exact ⟨by first | rfl | (simp; done) | (simp [*]; done), by repeat (first | exact Drawn0.refl _ | apply Drawn0.step)⟩
end Go.Proofs.Ytedodaifpekahaa.P

end
