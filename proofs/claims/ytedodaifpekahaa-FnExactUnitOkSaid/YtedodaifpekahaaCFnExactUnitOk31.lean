/- A part of the claim FnExactUnitOk: texts of this session and texts that its program printed out of the translation, joined. -/
import Derived.Test.YtedodaifpekahaaCFnExactUnitOk21
import Derived.Test.YtedodaifpekahaaCFnExactUnitOk30
import Derived.Carry
import Derived.Test.YtedodaifpekahaaCFnExactUnitOk0
import Derived.Test.YtedodaifpekahaaCFnExactUnitOk1
import Derived.Test.YtedodaifpekahaaCFnExactUnitOk2
import Derived.Test.YtedodaifpekahaaCFnExactUnitOk3
import Derived.Test.YtedodaifpekahaaCFnExactUnitOk4
import Derived.Test.YtedodaifpekahaaCFnExactUnitOk5
import Derived.Test.YtedodaifpekahaaCFnExactUnitOk6
import Derived.Test.YtedodaifpekahaaCFnExactUnitOk7
import Derived.Test.YtedodaifpekahaaCFnExactUnitOk8
import Derived.Test.YtedodaifpekahaaCFnExactUnitOk9
import Derived.Test.YtedodaifpekahaaCFnExactUnitOk10
import Derived.Test.YtedodaifpekahaaCFnExactUnitOk11
import Derived.Test.YtedodaifpekahaaCFnExactUnitOk12
import Derived.Test.YtedodaifpekahaaCFnExactUnitOk13
import Derived.Test.YtedodaifpekahaaCFnExactUnitOk14
import Derived.Test.YtedodaifpekahaaCFnExactUnitOk15
import Derived.Test.YtedodaifpekahaaCFnExactUnitOk16
import Derived.Test.YtedodaifpekahaaCFnExactUnitOk17
import Derived.Test.YtedodaifpekahaaCFnExactUnitOk18
import Derived.Test.YtedodaifpekahaaCFnExactUnitOk19
import Derived.Test.YtedodaifpekahaaCFnExactUnitOk20
import Derived.Test.YtedodaifpekahaaCFnExactUnitOk22
import Derived.Test.YtedodaifpekahaaCFnExactUnitOk23
import Derived.Test.YtedodaifpekahaaCFnExactUnitOk24
import Derived.Test.YtedodaifpekahaaCFnExactUnitOk25
import Derived.Test.YtedodaifpekahaaCFnExactUnitOk26
import Derived.Test.YtedodaifpekahaaCFnExactUnitOk27
import Derived.Test.YtedodaifpekahaaCFnExactUnitOk28
import Derived.Test.YtedodaifpekahaaCFnExactUnitOk29
section

namespace Go.Proofs.Ytedodaifpekahaa.P
open Go.RowKit Go.Proofs.YtedodaifpekahaaW.PrintWords Go.Proofs.YtedodaifpekahaaW.PrintLast Go.Proofs.YtedodaifpekahaaW.PrintMore
attribute [local go_sem] max2_int min2_int max_two min_two max_three min_three max_four min_four
set_option linter.unusedVariables false
set_option linter.unusedSimpArgs false
set_option maxHeartbeats 8000000 in
set_option maxRecDepth 100000 in
theorem impl_agree.calls (k : Nat) (A0_0 : Option Addr) (c0_0 : Nat) (l0_0 : List (S76)) (A0_1 : Option Addr) (c0_1 : Nat) (l0_1 : List (S46)) (r : Bool) (w : World) (hr0_0 : Kd.C k76 w A0_0 l0_0.length l0_0) (hc0_0 : l0_0.length ≤ c0_0) (hr0_1 : Kd.C k46 w A0_1 l0_1.length l0_1) (hc0_1 : l0_1.length ≤ c0_1) (h : impl_agree.f k l0_0 l0_1 = some r) :
    Calls Try.prog 25 #[.agg #[.slice A0_0 l0_0.length c0_0, .slice A0_1 l0_1.length c0_1]] w fun e w' => e = .returned (.bool r) ∧ Below w.heap.size w w' := by
  have hu31 := Try.underlying31
  have hu46 := Try.underlying46
  have HR0_0 := Aside0.mk hr0_0
  have HC0_0 := Aside0.mk hc0_0
  clear hr0_0 hc0_0
  have HR0_1 := Aside0.mk hr0_1
  have HC0_1 := Aside0.mk hc0_1
  clear hr0_1 hc0_1
  have HB := Aside0.mk (Below.refl w.heap.size w)
  have H : (impl_agree.l0 k l0_1 (l0_1.length : Int) 0 l0_0 l0_1) = some r := h
  clear h
  have H' := Aside0.mk H
  clear H
  go_enter Try.func25, Try.ntmps25
  go_wp2_with (first | ((with_reducible refine gate_dst (N := 1) rfl ?_); refine box_event ?hg (N := 1) ?hd (cs := #[.slice A0_0 l0_0.length c0_0, .slice A0_1 l0_1.length c0_1]) (t := 31) ?hr ?_; (case hd => rfl); (case hg => rfl); (case hr => first | (go_simp; done) | (go_simp; rfl)); intro gb394 hg w2 hbox hb; have n0_ := Aside0.mk (below_step (by repeat (first | (with_reducible first | exact HB.out | apply below_alloc | apply pw_below_drewN | apply below_drew1) | exact HB.out)) hb); have n1_ := Aside0.mk (hbox); have n2_ := Aside0.mk ((by rw [hg]; exact (below_size (by repeat (first | (with_reducible first | exact HB.out | apply below_alloc | apply pw_below_drewN | apply below_drew1) | exact HB.out))) : w.heap.size ≤ gb394)); have n3_ := Aside0.mk ((by rw [hg]; exact (below_size (by repeat (first | (with_reducible first | exact HB.out | apply below_alloc | apply pw_below_drewN | apply below_drew1) | exact HB.out))) : w.heap.size ≤ gb394)); clear HB; have HB := n0_; have BK394 := n1_; have GW394 := n2_; have GE394 := n3_; clear n0_ n1_ n2_ n3_; clear hb hbox hg; have hcz3_0 : w2.cell? ⟨gb394, 0, none⟩ = some (.slice A0_0 l0_0.length c0_0) := (blk_cell BK394.out 0).trans rfl; have hcz3_1 : w2.cell? ⟨gb394, 1, none⟩ = some (.slice A0_1 l0_1.length c0_1) := (blk_cell BK394.out 1).trans rfl; have hfz3_0 := blk_frozen BK394.out 0; have hfz3_1 := blk_frozen BK394.out 1))
  go_loopg [10] k (fun kq v10 w' => ∃ (x10_1 : Int), v10 = .int .i64 x10_1 ∧ Aside0 (impl_agree.l0 kq l0_1 (l0_1.length : Int) x10_1 l0_0 l0_1 = some r) ∧ Aside0 (kq ≤ k) ∧ Aside0 (w'.heap[gb394]? = some (.cells #[(.slice A0_0 l0_0.length c0_0), (.slice A0_1 l0_1.length c0_1)] 31 (0, 0))) ∧ Aside0 (Below w.heap.size w w'))
  case atStart => exact ⟨(0), (by first | rfl | (simp; done) | (simp [*]; done)), H', ⟨Nat.le_refl _⟩, ⟨by (with_reducible repeat (first | refine blk_drewN ?_ _ | refine blk_drew ?_ | refine blk_alloc ?_ _)); exact BK394.out⟩, ⟨by repeat (first | (with_reducible first | exact HB.out | apply below_alloc | apply pw_below_drewN | apply below_drew1 | refine below_set ?_ GE394.out) | exact HB.out)⟩⟩
  case round =>
    clear H'
    try clear c2
    try clear p2
    try clear hcz3_0
    try clear hcz3_1
    try clear hfz3_0
    try clear hfz3_1
    obtain ⟨x10_1, rfl, HA, HK1, BK394, HB⟩ := hrel
    cases gk with
    | zero => exact absurd HA.out (by simp [impl_agree.l0])
    | succ k1 =>
      have H := HA.out
      clear HA
      simp only [impl_agree.l0] at H
      by_cases c4 : x10_1 < (l0_1.length : Int)
      · rw [if_pos c4] at H
        have c4b0 : decide (x10_1 < (l0_1.length : Int)) = true := decide_eq_true c4
        clear c4
        by_cases c5 : 0 ≤ x10_1
        · rw [if_pos c5] at H
          have c5b0 : decide (0 ≤ x10_1) = true := decide_eq_true c5
          clear c5
          by_cases c6 : x10_1 < (l0_1.length : Int)
          · rw [if_pos c6] at H
            have c6b0 : decide (x10_1 < (l0_1.length : Int)) = true := decide_eq_true c6
            clear c6
            have H' := Aside0.mk H
            clear H
            have p395 : 0 ≤ (x10_1 : Int) := of_decide_eq_true (by first | (with_reducible assumption) | assumption)
            have q395 : x10_1 < (l0_1.length : Int) := of_decide_eq_true (by first | (with_reducible assumption) | assumption)
            obtain ⟨ad395, A395_2, c395_2, A395_5, c395_5, A395_6, c395_6, A395_7, c395_7, e395, hx395_0, hx395_1, hx395_2, hx395_3, hx395_4, hx395_5, hx395_6, hx395_7, hl395_2, hi395_2, hl395_5, hi395_5, hl395_6, hi395_6, hl395_7, hi395_7⟩ := at_T46 HR0_1.out x10_1 p395 q395
            cases e395
            replace hx395_0 := (HB.out.cell (World.block_lt_of_cell? w _ hx395_0)).trans hx395_0
            replace hx395_1 := (HB.out.cell (World.block_lt_of_cell? w _ hx395_1)).trans hx395_1
            replace hx395_2 := (HB.out.cell (World.block_lt_of_cell? w _ hx395_2)).trans hx395_2
            replace hx395_3 := (HB.out.cell (World.block_lt_of_cell? w _ hx395_3)).trans hx395_3
            replace hx395_4 := (HB.out.cell (World.block_lt_of_cell? w _ hx395_4)).trans hx395_4
            replace hx395_5 := (HB.out.cell (World.block_lt_of_cell? w _ hx395_5)).trans hx395_5
            replace hx395_6 := (HB.out.cell (World.block_lt_of_cell? w _ hx395_6)).trans hx395_6
            replace hx395_7 := (HB.out.cell (World.block_lt_of_cell? w _ hx395_7)).trans hx395_7
            have HR395_2 := Aside0.mk hi395_2
            have HC395_2 := Aside0.mk hl395_2
            clear hi395_2 hl395_2
            have HR395_5 := Aside0.mk hi395_5
            have HC395_5 := Aside0.mk hl395_5
            clear hi395_5 hl395_5
            have HR395_6 := Aside0.mk hi395_6
            have HC395_6 := Aside0.mk hl395_6
            clear hi395_6 hl395_6
            have HR395_7 := Aside0.mk hi395_7
            have HC395_7 := Aside0.mk hl395_7
            clear hi395_7 hl395_7
            replace p395 := eq_true p395
            replace q395 := eq_true q395
            go_wp2_with (first | ((with_reducible refine gate_dst (N := 4) rfl ?_); refine box_event ?hg (N := 4) ?hd (cs := #[.int .i64 0, .int .i64 0, .slice none 0 0, .int .i64 0, .int .i64 0, .slice none 0 0, .slice none 0 0, .slice none 0 0]) (t := 46) ?hr ?_; (case hd => rfl); (case hg => rfl); (case hr => first | (go_simp; done) | (go_simp; rfl)); intro gb396 hg w7 hbox hb; have n0_ := Aside0.mk (blk_below (g := gb394) (o := .cells #[.slice A0_0 l0_0.length c0_0, .slice (some ad395) l0_1.length c0_1] 31 (0, 0)) (by (with_reducible repeat (first | refine blk_drewN ?_ _ | refine blk_drew ?_ | refine blk_alloc ?_ _)); exact BK394.out) hb); have n1_ := Aside0.mk (below_step (by repeat (first | (with_reducible first | exact HB.out | apply below_alloc | apply pw_below_drewN | apply below_drew1 | refine below_set ?_ GE394.out) | exact HB.out)) hb); have n2_ := Aside0.mk (hbox); have n3_ := Aside0.mk ((by rw [hg]; exact (below_size (by repeat (first | (with_reducible first | exact HB.out | apply below_alloc | apply pw_below_drewN | apply below_drew1 | refine below_set ?_ GE394.out) | exact HB.out))) : w.heap.size ≤ gb396)); have n4_ := Aside0.mk ((by rw [hg]; exact (below_size (by repeat (first | (with_reducible first | exact HB.out | apply below_alloc | apply pw_below_drewN | apply below_drew1 | refine below_set ?_ GE394.out) | exact HB.out))) : w.heap.size ≤ gb396)); have n5_ := Aside0.mk ((by rw [hg]; exact Nat.ne_of_lt (blk_lt (g := gb394) (o := .cells #[.slice A0_0 l0_0.length c0_0, .slice (some ad395) l0_1.length c0_1] 31 (0, 0)) (by (with_reducible repeat (first | refine blk_drewN ?_ _ | refine blk_drew ?_ | refine blk_alloc ?_ _)); exact BK394.out)) : gb394 ≠ gb396)); have n6_ := Aside0.mk ((by rw [hg]; exact Nat.ne_of_gt (blk_lt (g := gb394) (o := .cells #[.slice A0_0 l0_0.length c0_0, .slice (some ad395) l0_1.length c0_1] 31 (0, 0)) (by (with_reducible repeat (first | refine blk_drewN ?_ _ | refine blk_drew ?_ | refine blk_alloc ?_ _)); exact BK394.out)) : gb396 ≠ gb394)); clear BK394; clear HB; have BK394 := n0_; have HB := n1_; have BK396 := n2_; have GW396 := n3_; have GE396 := n4_; have NB394_396 := n5_; have NB396_394 := n6_; clear n0_ n1_ n2_ n3_ n4_ n5_ n6_; clear hb hbox hg; have hnb8 := NB396_394.out; have hnc8 := NB394_396.out; have hcz9_0 : w7.cell? ⟨gb396, 0, none⟩ = some (.int .i64 0) := (blk_cell BK396.out 0).trans rfl; have hcz9_1 : w7.cell? ⟨gb396, 1, none⟩ = some (.int .i64 0) := (blk_cell BK396.out 1).trans rfl; have hcz9_2 : w7.cell? ⟨gb396, 2, none⟩ = some (.slice none 0 0) := (blk_cell BK396.out 2).trans rfl; have hcz9_3 : w7.cell? ⟨gb396, 3, none⟩ = some (.int .i64 0) := (blk_cell BK396.out 3).trans rfl; have hcz9_4 : w7.cell? ⟨gb396, 4, none⟩ = some (.int .i64 0) := (blk_cell BK396.out 4).trans rfl; have hcz9_5 : w7.cell? ⟨gb396, 5, none⟩ = some (.slice none 0 0) := (blk_cell BK396.out 5).trans rfl; have hcz9_6 : w7.cell? ⟨gb396, 6, none⟩ = some (.slice none 0 0) := (blk_cell BK396.out 6).trans rfl; have hcz9_7 : w7.cell? ⟨gb396, 7, none⟩ = some (.slice none 0 0) := (blk_cell BK396.out 7).trans rfl; have hfz9_0 := blk_frozen BK396.out 0; have hfz9_1 := blk_frozen BK396.out 1; have hfz9_2 := blk_frozen BK396.out 2; have hfz9_3 := blk_frozen BK396.out 3; have hfz9_4 := blk_frozen BK396.out 4; have hfz9_5 := blk_frozen BK396.out 5; have hfz9_6 := blk_frozen BK396.out 6; have hfz9_7 := blk_frozen BK396.out 7; have hcz10_0 : w7.cell? ⟨gb394, 0, none⟩ = some (.slice A0_0 l0_0.length c0_0) := (blk_cell BK394.out 0).trans rfl; have hcz10_1 : w7.cell? ⟨gb394, 1, none⟩ = some (.slice (some ad395) l0_1.length c0_1) := (blk_cell BK394.out 1).trans rfl; have hfz10_0 := blk_frozen BK394.out 0; have hfz10_1 := blk_frozen BK394.out 1))
            go_loopg [18] k1 (fun kq v18 w' => ∃ (x18_2 : Int), v18 = .int .i64 x18_2 ∧ Aside0 (impl_agree.l1 kq x10_1 l0_1 (l0_1.length : Int) x10_1 l0_1 (l0_1.length : Int) x18_2 l0_0 l0_1 ((rd_T46 l0_1 x10_1).f0) ((rd_T46 l0_1 x10_1).f1) ((rd_T46 l0_1 x10_1).f2) ((rd_T46 l0_1 x10_1).f3) ((rd_T46 l0_1 x10_1).f4) ((rd_T46 l0_1 x10_1).f5) ((rd_T46 l0_1 x10_1).f6) ((rd_T46 l0_1 x10_1).f7) = some r) ∧ Aside0 (kq ≤ k1) ∧ Aside0 (w'.heap[gb394]? = some (.cells #[(.slice A0_0 l0_0.length c0_0), (.slice (some ad395) l0_1.length c0_1)] 31 (0, 0))) ∧ Aside0 (w'.heap[gb396]? = some (.cells #[.int .i64 ((rd_T46 l0_1 x10_1).f0), .int .i64 ((rd_T46 l0_1 x10_1).f1), (.slice A395_2 ((rd_T46 l0_1 x10_1).f2).length c395_2), .int .i64 ((rd_T46 l0_1 x10_1).f3), .int .i64 ((rd_T46 l0_1 x10_1).f4), (.slice A395_5 ((rd_T46 l0_1 x10_1).f5).length c395_5), (.slice A395_6 ((rd_T46 l0_1 x10_1).f6).length c395_6), (.slice A395_7 ((rd_T46 l0_1 x10_1).f7).length c395_7)] 46 (0, 0))) ∧ Aside0 (Below w.heap.size w w'))
            case atStart => exact ⟨(0), (by first | rfl | (simp; done) | (simp [*]; done)), H', ⟨Nat.le_refl _⟩, ⟨by (with_reducible repeat (first | refine blk_drewN ?_ _ | refine blk_drew ?_ | refine blk_alloc ?_ _)); refine blk_far ?_ NB394_396.out _; (with_reducible repeat (first | refine blk_drewN ?_ _ | refine blk_drew ?_ | refine blk_alloc ?_ _)); refine blk_far ?_ NB394_396.out _; (with_reducible repeat (first | refine blk_drewN ?_ _ | refine blk_drew ?_ | refine blk_alloc ?_ _)); refine blk_far ?_ NB394_396.out _; (with_reducible repeat (first | refine blk_drewN ?_ _ | refine blk_drew ?_ | refine blk_alloc ?_ _)); refine blk_far ?_ NB394_396.out _; (with_reducible repeat (first | refine blk_drewN ?_ _ | refine blk_drew ?_ | refine blk_alloc ?_ _)); refine blk_far ?_ NB394_396.out _; (with_reducible repeat (first | refine blk_drewN ?_ _ | refine blk_drew ?_ | refine blk_alloc ?_ _)); refine blk_far ?_ NB394_396.out _; (with_reducible repeat (first | refine blk_drewN ?_ _ | refine blk_drew ?_ | refine blk_alloc ?_ _)); refine blk_far ?_ NB394_396.out _; (with_reducible repeat (first | refine blk_drewN ?_ _ | refine blk_drew ?_ | refine blk_alloc ?_ _)); refine blk_far ?_ NB394_396.out _; (with_reducible repeat (first | refine blk_drewN ?_ _ | refine blk_drew ?_ | refine blk_alloc ?_ _)); exact BK394.out⟩, ⟨by (with_reducible repeat (first | refine blk_drewN ?_ _ | refine blk_drew ?_ | refine blk_alloc ?_ _)); refine blk_put (cs := #[.int .i64 ((rd_T46 l0_1 x10_1).f0), .int .i64 ((rd_T46 l0_1 x10_1).f1), .slice A395_2 ((rd_T46 l0_1 x10_1).f2).length c395_2, .int .i64 ((rd_T46 l0_1 x10_1).f3), .int .i64 ((rd_T46 l0_1 x10_1).f4), .slice A395_5 ((rd_T46 l0_1 x10_1).f5).length c395_5, .slice A395_6 ((rd_T46 l0_1 x10_1).f6).length c395_6, .slice none 0 0]) ?_ 7 _ rfl; (with_reducible repeat (first | refine blk_drewN ?_ _ | refine blk_drew ?_ | refine blk_alloc ?_ _)); refine blk_put (cs := #[.int .i64 ((rd_T46 l0_1 x10_1).f0), .int .i64 ((rd_T46 l0_1 x10_1).f1), .slice A395_2 ((rd_T46 l0_1 x10_1).f2).length c395_2, .int .i64 ((rd_T46 l0_1 x10_1).f3), .int .i64 ((rd_T46 l0_1 x10_1).f4), .slice A395_5 ((rd_T46 l0_1 x10_1).f5).length c395_5, .slice none 0 0, .slice none 0 0]) ?_ 6 _ rfl; (with_reducible repeat (first | refine blk_drewN ?_ _ | refine blk_drew ?_ | refine blk_alloc ?_ _)); refine blk_put (cs := #[.int .i64 ((rd_T46 l0_1 x10_1).f0), .int .i64 ((rd_T46 l0_1 x10_1).f1), .slice A395_2 ((rd_T46 l0_1 x10_1).f2).length c395_2, .int .i64 ((rd_T46 l0_1 x10_1).f3), .int .i64 ((rd_T46 l0_1 x10_1).f4), .slice none 0 0, .slice none 0 0, .slice none 0 0]) ?_ 5 _ rfl; (with_reducible repeat (first | refine blk_drewN ?_ _ | refine blk_drew ?_ | refine blk_alloc ?_ _)); refine blk_put (cs := #[.int .i64 ((rd_T46 l0_1 x10_1).f0), .int .i64 ((rd_T46 l0_1 x10_1).f1), .slice A395_2 ((rd_T46 l0_1 x10_1).f2).length c395_2, .int .i64 ((rd_T46 l0_1 x10_1).f3), .int .i64 0, .slice none 0 0, .slice none 0 0, .slice none 0 0]) ?_ 4 _ rfl; (with_reducible repeat (first | refine blk_drewN ?_ _ | refine blk_drew ?_ | refine blk_alloc ?_ _)); refine blk_put (cs := #[.int .i64 ((rd_T46 l0_1 x10_1).f0), .int .i64 ((rd_T46 l0_1 x10_1).f1), .slice A395_2 ((rd_T46 l0_1 x10_1).f2).length c395_2, .int .i64 0, .int .i64 0, .slice none 0 0, .slice none 0 0, .slice none 0 0]) ?_ 3 _ rfl; (with_reducible repeat (first | refine blk_drewN ?_ _ | refine blk_drew ?_ | refine blk_alloc ?_ _)); refine blk_put (cs := #[.int .i64 ((rd_T46 l0_1 x10_1).f0), .int .i64 ((rd_T46 l0_1 x10_1).f1), .slice none 0 0, .int .i64 0, .int .i64 0, .slice none 0 0, .slice none 0 0, .slice none 0 0]) ?_ 2 _ rfl; (with_reducible repeat (first | refine blk_drewN ?_ _ | refine blk_drew ?_ | refine blk_alloc ?_ _)); refine blk_put (cs := #[.int .i64 ((rd_T46 l0_1 x10_1).f0), .int .i64 0, .slice none 0 0, .int .i64 0, .int .i64 0, .slice none 0 0, .slice none 0 0, .slice none 0 0]) ?_ 1 _ rfl; (with_reducible repeat (first | refine blk_drewN ?_ _ | refine blk_drew ?_ | refine blk_alloc ?_ _)); refine blk_put (cs := #[.int .i64 0, .int .i64 0, .slice none 0 0, .int .i64 0, .int .i64 0, .slice none 0 0, .slice none 0 0, .slice none 0 0]) ?_ 0 _ rfl; (with_reducible repeat (first | refine blk_drewN ?_ _ | refine blk_drew ?_ | refine blk_alloc ?_ _)); exact BK396.out⟩, ⟨by repeat (first | (with_reducible first | exact HB.out | apply below_alloc | apply pw_below_drewN | apply below_drew1 | refine below_set ?_ GE394.out | refine below_set ?_ GE396.out) | exact HB.out)⟩⟩
            case round =>
              clear H'
              try clear c2
              try clear p2
              try clear c3
              try clear p3
              try clear q3
              try clear hx3
              try clear c4
              try clear c4b0
              try clear c5
              try clear c5b0
              try clear c6
              try clear c6b0
              try clear c8
              try clear hcz10_0
              try clear hcz10_1
              try clear hcz3_0
              try clear hcz3_1
              try clear hcz9_0
              try clear hcz9_1
              try clear hcz9_2
              try clear hcz9_3
              try clear hcz9_4
              try clear hcz9_5
              try clear hcz9_6
              try clear hcz9_7
              try clear hfz10_0
              try clear hfz10_1
              try clear hfz3_0
              try clear hfz3_1
              try clear hfz9_0
              try clear hfz9_1
              try clear hfz9_2
              try clear hfz9_3
              try clear hfz9_4
              try clear hfz9_5
              try clear hfz9_6
              try clear hfz9_7
              try clear hx395_0
              try clear hx395_1
              try clear hx395_2
              try clear hx395_3
              try clear hx395_4
              try clear hx395_5
              try clear hx395_6
              try clear hx395_7
              try clear p2
              try clear p395
              try clear q395
              obtain ⟨x18_2, rfl, HA, HK2, BK394, BK396, HB⟩ := hrel
              cases gk with
              | zero => exact absurd HA.out (by simp [impl_agree.l1])
              | succ k2 =>
                have H := HA.out
                clear HA
                simp only [impl_agree.l1] at H
                by_cases c11 : x18_2 < (l0_1.length : Int)
                · rw [if_pos c11] at H
                  have c11b0 : decide (x18_2 < (l0_1.length : Int)) = true := decide_eq_true c11
                  clear c11
                  by_cases c12 : 0 ≤ x18_2
                  · rw [if_pos c12] at H
                    have c12b0 : decide (0 ≤ x18_2) = true := decide_eq_true c12
                    clear c12
                    by_cases c13 : x18_2 < (l0_1.length : Int)
                    · rw [if_pos c13] at H
                      have c13b0 : decide (x18_2 < (l0_1.length : Int)) = true := decide_eq_true c13
                      clear c13
                      have HC14 := Aside0.mk H
                      clear H
                      have p397 : 0 ≤ (x18_2 : Int) := of_decide_eq_true (by first | (with_reducible assumption) | assumption)
                      have q397 : x18_2 < (l0_1.length : Int) := of_decide_eq_true (by first | (with_reducible assumption) | assumption)
                      obtain ⟨ad397, A397_2, c397_2, A397_5, c397_5, A397_6, c397_6, A397_7, c397_7, e397, hx397_0, hx397_1, hx397_2, hx397_3, hx397_4, hx397_5, hx397_6, hx397_7, hl397_2, hi397_2, hl397_5, hi397_5, hl397_6, hi397_6, hl397_7, hi397_7⟩ := at_T46 HR0_1.out x18_2 p397 q397
                      obtain rfl : ad395 = ad397 := (by injection e397)
                      replace hx397_0 := (HB.out.cell (World.block_lt_of_cell? w _ hx397_0)).trans hx397_0
                      replace hx397_1 := (HB.out.cell (World.block_lt_of_cell? w _ hx397_1)).trans hx397_1
                      replace hx397_2 := (HB.out.cell (World.block_lt_of_cell? w _ hx397_2)).trans hx397_2
                      replace hx397_3 := (HB.out.cell (World.block_lt_of_cell? w _ hx397_3)).trans hx397_3
                      replace hx397_4 := (HB.out.cell (World.block_lt_of_cell? w _ hx397_4)).trans hx397_4
                      replace hx397_5 := (HB.out.cell (World.block_lt_of_cell? w _ hx397_5)).trans hx397_5
                      replace hx397_6 := (HB.out.cell (World.block_lt_of_cell? w _ hx397_6)).trans hx397_6
                      replace hx397_7 := (HB.out.cell (World.block_lt_of_cell? w _ hx397_7)).trans hx397_7
                      have HR397_2 := Aside0.mk hi397_2
                      have HC397_2 := Aside0.mk hl397_2
                      clear hi397_2 hl397_2
                      have HR397_5 := Aside0.mk hi397_5
                      have HC397_5 := Aside0.mk hl397_5
                      clear hi397_5 hl397_5
                      have HR397_6 := Aside0.mk hi397_6
                      have HC397_6 := Aside0.mk hl397_6
                      clear hi397_6 hl397_6
                      have HR397_7 := Aside0.mk hi397_7
                      have HC397_7 := Aside0.mk hl397_7
                      clear hi397_7 hl397_7
                      replace p397 := eq_true p397
                      replace q397 := eq_true q397
                      go_upto_region 7 with (first | ((with_reducible refine gate_dst (N := 6) rfl ?_); refine box_event ?hg (N := 6) ?hd (cs := #[.int .i64 0, .int .i64 0, .slice none 0 0, .int .i64 0, .int .i64 0, .slice none 0 0, .slice none 0 0, .slice none 0 0]) (t := 46) ?hr ?_; (case hd => rfl); (case hg => rfl); (case hr => first | (go_simp; done) | (go_simp; rfl)); intro gb398 hg w15 hbox hb; have n0_ := Aside0.mk (blk_below (g := gb394) (o := .cells #[.slice A0_0 l0_0.length c0_0, .slice (some ad395) l0_1.length c0_1] 31 (0, 0)) (by (with_reducible repeat (first | refine blk_drewN ?_ _ | refine blk_drew ?_ | refine blk_alloc ?_ _)); exact BK394.out) hb); have n1_ := Aside0.mk (blk_below (g := gb396) (o := .cells #[.int .i64 ((rd_T46 l0_1 x10_1).f0), .int .i64 ((rd_T46 l0_1 x10_1).f1), .slice A395_2 ((rd_T46 l0_1 x10_1).f2).length c395_2, .int .i64 ((rd_T46 l0_1 x10_1).f3), .int .i64 ((rd_T46 l0_1 x10_1).f4), .slice A395_5 ((rd_T46 l0_1 x10_1).f5).length c395_5, .slice A395_6 ((rd_T46 l0_1 x10_1).f6).length c395_6, .slice A395_7 ((rd_T46 l0_1 x10_1).f7).length c395_7] 46 (0, 0)) (by (with_reducible repeat (first | refine blk_drewN ?_ _ | refine blk_drew ?_ | refine blk_alloc ?_ _)); exact BK396.out) hb); have n2_ := Aside0.mk (below_step (by repeat (first | (with_reducible first | exact HB.out | apply below_alloc | apply pw_below_drewN | apply below_drew1 | refine below_set ?_ GE394.out | refine below_set ?_ GE396.out) | exact HB.out)) hb); have n3_ := Aside0.mk (hbox); have n4_ := Aside0.mk ((by rw [hg]; exact (below_size (by repeat (first | (with_reducible first | exact HB.out | apply below_alloc | apply pw_below_drewN | apply below_drew1 | refine below_set ?_ GE394.out | refine below_set ?_ GE396.out) | exact HB.out))) : w.heap.size ≤ gb398)); have n5_ := Aside0.mk ((by rw [hg]; exact (below_size (by repeat (first | (with_reducible first | exact HB.out | apply below_alloc | apply pw_below_drewN | apply below_drew1 | refine below_set ?_ GE394.out | refine below_set ?_ GE396.out) | exact HB.out))) : w.heap.size ≤ gb398)); have n6_ := Aside0.mk ((by rw [hg]; exact Nat.ne_of_lt (blk_lt (g := gb394) (o := .cells #[.slice A0_0 l0_0.length c0_0, .slice (some ad395) l0_1.length c0_1] 31 (0, 0)) (by (with_reducible repeat (first | refine blk_drewN ?_ _ | refine blk_drew ?_ | refine blk_alloc ?_ _)); exact BK394.out)) : gb394 ≠ gb398)); have n7_ := Aside0.mk ((by rw [hg]; exact Nat.ne_of_gt (blk_lt (g := gb394) (o := .cells #[.slice A0_0 l0_0.length c0_0, .slice (some ad395) l0_1.length c0_1] 31 (0, 0)) (by (with_reducible repeat (first | refine blk_drewN ?_ _ | refine blk_drew ?_ | refine blk_alloc ?_ _)); exact BK394.out)) : gb398 ≠ gb394)); have n8_ := Aside0.mk ((by rw [hg]; exact Nat.ne_of_lt (blk_lt (g := gb396) (o := .cells #[.int .i64 ((rd_T46 l0_1 x10_1).f0), .int .i64 ((rd_T46 l0_1 x10_1).f1), .slice A395_2 ((rd_T46 l0_1 x10_1).f2).length c395_2, .int .i64 ((rd_T46 l0_1 x10_1).f3), .int .i64 ((rd_T46 l0_1 x10_1).f4), .slice A395_5 ((rd_T46 l0_1 x10_1).f5).length c395_5, .slice A395_6 ((rd_T46 l0_1 x10_1).f6).length c395_6, .slice A395_7 ((rd_T46 l0_1 x10_1).f7).length c395_7] 46 (0, 0)) (by (with_reducible repeat (first | refine blk_drewN ?_ _ | refine blk_drew ?_ | refine blk_alloc ?_ _)); exact BK396.out)) : gb396 ≠ gb398)); have n9_ := Aside0.mk ((by rw [hg]; exact Nat.ne_of_gt (blk_lt (g := gb396) (o := .cells #[.int .i64 ((rd_T46 l0_1 x10_1).f0), .int .i64 ((rd_T46 l0_1 x10_1).f1), .slice A395_2 ((rd_T46 l0_1 x10_1).f2).length c395_2, .int .i64 ((rd_T46 l0_1 x10_1).f3), .int .i64 ((rd_T46 l0_1 x10_1).f4), .slice A395_5 ((rd_T46 l0_1 x10_1).f5).length c395_5, .slice A395_6 ((rd_T46 l0_1 x10_1).f6).length c395_6, .slice A395_7 ((rd_T46 l0_1 x10_1).f7).length c395_7] 46 (0, 0)) (by (with_reducible repeat (first | refine blk_drewN ?_ _ | refine blk_drew ?_ | refine blk_alloc ?_ _)); exact BK396.out)) : gb398 ≠ gb396)); clear BK394; clear BK396; clear HB; have BK394 := n0_; have BK396 := n1_; have HB := n2_; have BK398 := n3_; have GW398 := n4_; have GE398 := n5_; have NB394_398 := n6_; have NB398_394 := n7_; have NB396_398 := n8_; have NB398_396 := n9_; clear n0_ n1_ n2_ n3_ n4_ n5_ n6_ n7_ n8_ n9_; clear hb hbox hg; have hnb16 := NB398_394.out; have hnc16 := NB394_398.out; have hnb17 := NB398_396.out; have hnc17 := NB396_398.out; have hcz18_0 : w15.cell? ⟨gb398, 0, none⟩ = some (.int .i64 0) := (blk_cell BK398.out 0).trans rfl; have hcz18_1 : w15.cell? ⟨gb398, 1, none⟩ = some (.int .i64 0) := (blk_cell BK398.out 1).trans rfl; have hcz18_2 : w15.cell? ⟨gb398, 2, none⟩ = some (.slice none 0 0) := (blk_cell BK398.out 2).trans rfl; have hcz18_3 : w15.cell? ⟨gb398, 3, none⟩ = some (.int .i64 0) := (blk_cell BK398.out 3).trans rfl; have hcz18_4 : w15.cell? ⟨gb398, 4, none⟩ = some (.int .i64 0) := (blk_cell BK398.out 4).trans rfl; have hcz18_5 : w15.cell? ⟨gb398, 5, none⟩ = some (.slice none 0 0) := (blk_cell BK398.out 5).trans rfl; have hcz18_6 : w15.cell? ⟨gb398, 6, none⟩ = some (.slice none 0 0) := (blk_cell BK398.out 6).trans rfl; have hcz18_7 : w15.cell? ⟨gb398, 7, none⟩ = some (.slice none 0 0) := (blk_cell BK398.out 7).trans rfl; have hfz18_0 := blk_frozen BK398.out 0; have hfz18_1 := blk_frozen BK398.out 1; have hfz18_2 := blk_frozen BK398.out 2; have hfz18_3 := blk_frozen BK398.out 3; have hfz18_4 := blk_frozen BK398.out 4; have hfz18_5 := blk_frozen BK398.out 5; have hfz18_6 := blk_frozen BK398.out 6; have hfz18_7 := blk_frozen BK398.out 7))
                      (try simp only [Act.put, List.setIfInBounds_toArray, List.set_cons_zero, List.set_cons_succ])
                      go_cut [42] (fun v42 wc => ∃ (kq : Nat) (x42_13 : Bool), v42 = .bool x42_13 ∧ Aside0 (impl_agree.j2 kq x10_1 l0_1 (l0_1.length : Int) x10_1 l0_1 (l0_1.length : Int) x18_2 x42_13 l0_0 l0_1 ((rd_T46 l0_1 x10_1).f0) ((rd_T46 l0_1 x10_1).f1) ((rd_T46 l0_1 x10_1).f2) ((rd_T46 l0_1 x10_1).f3) ((rd_T46 l0_1 x10_1).f4) ((rd_T46 l0_1 x10_1).f5) ((rd_T46 l0_1 x10_1).f6) ((rd_T46 l0_1 x10_1).f7) ((rd_T46 l0_1 x18_2).f0) ((rd_T46 l0_1 x18_2).f1) ((rd_T46 l0_1 x18_2).f2) ((rd_T46 l0_1 x18_2).f3) ((rd_T46 l0_1 x18_2).f4) ((rd_T46 l0_1 x18_2).f5) ((rd_T46 l0_1 x18_2).f6) ((rd_T46 l0_1 x18_2).f7) = some r) ∧ Aside0 (kq ≤ k2) ∧ Aside0 (wc.heap[gb394]? = some (.cells #[(.slice A0_0 l0_0.length c0_0), (.slice (some ad395) l0_1.length c0_1)] 31 (0, 0))) ∧ Aside0 (wc.heap[gb396]? = some (.cells #[.int .i64 ((rd_T46 l0_1 x10_1).f0), .int .i64 ((rd_T46 l0_1 x10_1).f1), (.slice A395_2 ((rd_T46 l0_1 x10_1).f2).length c395_2), .int .i64 ((rd_T46 l0_1 x10_1).f3), .int .i64 ((rd_T46 l0_1 x10_1).f4), (.slice A395_5 ((rd_T46 l0_1 x10_1).f5).length c395_5), (.slice A395_6 ((rd_T46 l0_1 x10_1).f6).length c395_6), (.slice A395_7 ((rd_T46 l0_1 x10_1).f7).length c395_7)] 46 (0, 0))) ∧ Aside0 (wc.heap[gb398]? = some (.cells #[.int .i64 ((rd_T46 l0_1 x18_2).f0), .int .i64 ((rd_T46 l0_1 x18_2).f1), (.slice A397_2 ((rd_T46 l0_1 x18_2).f2).length c397_2), .int .i64 ((rd_T46 l0_1 x18_2).f3), .int .i64 ((rd_T46 l0_1 x18_2).f4), (.slice A397_5 ((rd_T46 l0_1 x18_2).f5).length c397_5), (.slice A397_6 ((rd_T46 l0_1 x18_2).f6).length c397_6), (.slice A397_7 ((rd_T46 l0_1 x18_2).f7).length c397_7)] 46 (0, 0))) ∧ Aside0 (Below w.heap.size w wc))
                      case first =>
                        have H := HC14.out
                        clear HC14
                        by_cases c19 : x10_1 = x18_2
                        · rw [if_pos c19] at H
                          have c19b0 : (x10_1 == x18_2) = true := beq_iff_eq.mpr c19
                          have c19b1 : (x10_1 != x18_2) = false := bne_eq_false_iff_eq.mpr c19
                          clear c19
                          (first | rw [c19b0] | (simp only [i64_w, i32_w]; rw [c19b0]) | skip)
                          have H' := Aside0.mk H
                          clear H
                          go_wp2
                          go_meet
                          case rel => exact ⟨_, (true), (by first | rfl | (simp; done) | (simp [*]; done)), H', ⟨by have := HK1.out; have := HK2.out; first | omega | exact Nat.le_refl _⟩, ⟨by (with_reducible repeat (first | refine blk_drewN ?_ _ | refine blk_drew ?_ | refine blk_alloc ?_ _)); refine blk_far ?_ NB394_398.out _; (with_reducible repeat (first | refine blk_drewN ?_ _ | refine blk_drew ?_ | refine blk_alloc ?_ _)); refine blk_far ?_ NB394_398.out _; (with_reducible repeat (first | refine blk_drewN ?_ _ | refine blk_drew ?_ | refine blk_alloc ?_ _)); refine blk_far ?_ NB394_398.out _; (with_reducible repeat (first | refine blk_drewN ?_ _ | refine blk_drew ?_ | refine blk_alloc ?_ _)); refine blk_far ?_ NB394_398.out _; (with_reducible repeat (first | refine blk_drewN ?_ _ | refine blk_drew ?_ | refine blk_alloc ?_ _)); refine blk_far ?_ NB394_398.out _; (with_reducible repeat (first | refine blk_drewN ?_ _ | refine blk_drew ?_ | refine blk_alloc ?_ _)); refine blk_far ?_ NB394_398.out _; (with_reducible repeat (first | refine blk_drewN ?_ _ | refine blk_drew ?_ | refine blk_alloc ?_ _)); refine blk_far ?_ NB394_398.out _; (with_reducible repeat (first | refine blk_drewN ?_ _ | refine blk_drew ?_ | refine blk_alloc ?_ _)); refine blk_far ?_ NB394_398.out _; (with_reducible repeat (first | refine blk_drewN ?_ _ | refine blk_drew ?_ | refine blk_alloc ?_ _)); exact BK394.out⟩, ⟨by (with_reducible repeat (first | refine blk_drewN ?_ _ | refine blk_drew ?_ | refine blk_alloc ?_ _)); refine blk_far ?_ NB396_398.out _; (with_reducible repeat (first | refine blk_drewN ?_ _ | refine blk_drew ?_ | refine blk_alloc ?_ _)); refine blk_far ?_ NB396_398.out _; (with_reducible repeat (first | refine blk_drewN ?_ _ | refine blk_drew ?_ | refine blk_alloc ?_ _)); refine blk_far ?_ NB396_398.out _; (with_reducible repeat (first | refine blk_drewN ?_ _ | refine blk_drew ?_ | refine blk_alloc ?_ _)); refine blk_far ?_ NB396_398.out _; (with_reducible repeat (first | refine blk_drewN ?_ _ | refine blk_drew ?_ | refine blk_alloc ?_ _)); refine blk_far ?_ NB396_398.out _; (with_reducible repeat (first | refine blk_drewN ?_ _ | refine blk_drew ?_ | refine blk_alloc ?_ _)); refine blk_far ?_ NB396_398.out _; (with_reducible repeat (first | refine blk_drewN ?_ _ | refine blk_drew ?_ | refine blk_alloc ?_ _)); refine blk_far ?_ NB396_398.out _; (with_reducible repeat (first | refine blk_drewN ?_ _ | refine blk_drew ?_ | refine blk_alloc ?_ _)); refine blk_far ?_ NB396_398.out _; (with_reducible repeat (first | refine blk_drewN ?_ _ | refine blk_drew ?_ | refine blk_alloc ?_ _)); exact BK396.out⟩, ⟨by (with_reducible repeat (first | refine blk_drewN ?_ _ | refine blk_drew ?_ | refine blk_alloc ?_ _)); refine blk_put (cs := #[.int .i64 ((rd_T46 l0_1 x18_2).f0), .int .i64 ((rd_T46 l0_1 x18_2).f1), .slice A397_2 ((rd_T46 l0_1 x18_2).f2).length c397_2, .int .i64 ((rd_T46 l0_1 x18_2).f3), .int .i64 ((rd_T46 l0_1 x18_2).f4), .slice A397_5 ((rd_T46 l0_1 x18_2).f5).length c397_5, .slice A397_6 ((rd_T46 l0_1 x18_2).f6).length c397_6, .slice none 0 0]) ?_ 7 _ rfl; (with_reducible repeat (first | refine blk_drewN ?_ _ | refine blk_drew ?_ | refine blk_alloc ?_ _)); refine blk_put (cs := #[.int .i64 ((rd_T46 l0_1 x18_2).f0), .int .i64 ((rd_T46 l0_1 x18_2).f1), .slice A397_2 ((rd_T46 l0_1 x18_2).f2).length c397_2, .int .i64 ((rd_T46 l0_1 x18_2).f3), .int .i64 ((rd_T46 l0_1 x18_2).f4), .slice A397_5 ((rd_T46 l0_1 x18_2).f5).length c397_5, .slice none 0 0, .slice none 0 0]) ?_ 6 _ rfl; (with_reducible repeat (first | refine blk_drewN ?_ _ | refine blk_drew ?_ | refine blk_alloc ?_ _)); refine blk_put (cs := #[.int .i64 ((rd_T46 l0_1 x18_2).f0), .int .i64 ((rd_T46 l0_1 x18_2).f1), .slice A397_2 ((rd_T46 l0_1 x18_2).f2).length c397_2, .int .i64 ((rd_T46 l0_1 x18_2).f3), .int .i64 ((rd_T46 l0_1 x18_2).f4), .slice none 0 0, .slice none 0 0, .slice none 0 0]) ?_ 5 _ rfl; (with_reducible repeat (first | refine blk_drewN ?_ _ | refine blk_drew ?_ | refine blk_alloc ?_ _)); refine blk_put (cs := #[.int .i64 ((rd_T46 l0_1 x18_2).f0), .int .i64 ((rd_T46 l0_1 x18_2).f1), .slice A397_2 ((rd_T46 l0_1 x18_2).f2).length c397_2, .int .i64 ((rd_T46 l0_1 x18_2).f3), .int .i64 0, .slice none 0 0, .slice none 0 0, .slice none 0 0]) ?_ 4 _ rfl; (with_reducible repeat (first | refine blk_drewN ?_ _ | refine blk_drew ?_ | refine blk_alloc ?_ _)); refine blk_put (cs := #[.int .i64 ((rd_T46 l0_1 x18_2).f0), .int .i64 ((rd_T46 l0_1 x18_2).f1), .slice A397_2 ((rd_T46 l0_1 x18_2).f2).length c397_2, .int .i64 0, .int .i64 0, .slice none 0 0, .slice none 0 0, .slice none 0 0]) ?_ 3 _ rfl; (with_reducible repeat (first | refine blk_drewN ?_ _ | refine blk_drew ?_ | refine blk_alloc ?_ _)); refine blk_put (cs := #[.int .i64 ((rd_T46 l0_1 x18_2).f0), .int .i64 ((rd_T46 l0_1 x18_2).f1), .slice none 0 0, .int .i64 0, .int .i64 0, .slice none 0 0, .slice none 0 0, .slice none 0 0]) ?_ 2 _ rfl; (with_reducible repeat (first | refine blk_drewN ?_ _ | refine blk_drew ?_ | refine blk_alloc ?_ _)); refine blk_put (cs := #[.int .i64 ((rd_T46 l0_1 x18_2).f0), .int .i64 0, .slice none 0 0, .int .i64 0, .int .i64 0, .slice none 0 0, .slice none 0 0, .slice none 0 0]) ?_ 1 _ rfl; (with_reducible repeat (first | refine blk_drewN ?_ _ | refine blk_drew ?_ | refine blk_alloc ?_ _)); refine blk_put (cs := #[.int .i64 0, .int .i64 0, .slice none 0 0, .int .i64 0, .int .i64 0, .slice none 0 0, .slice none 0 0, .slice none 0 0]) ?_ 0 _ rfl; (with_reducible repeat (first | refine blk_drewN ?_ _ | refine blk_drew ?_ | refine blk_alloc ?_ _)); exact BK398.out⟩, ⟨by repeat (first | (with_reducible first | exact HB.out | apply below_alloc | apply pw_below_drewN | apply below_drew1 | refine below_set ?_ GE394.out | refine below_set ?_ GE396.out | refine below_set ?_ GE398.out) | exact HB.out)⟩⟩
                        · rw [if_neg c19] at H
                          have c19b0 : (x10_1 == x18_2) = false := beq_eq_false_iff_ne.mpr c19
                          have c19b1 : (x10_1 != x18_2) = true := bne_iff_ne.mpr c19
                          (first | rw [c19b0] | (simp only [i64_w, i32_w]; rw [c19b0]) | skip)
                          by_cases c20 : ((rd_T46 l0_1 x10_1).f0) < 0
                          · rw [if_pos c20] at H
                            have c20b0 : decide (((rd_T46 l0_1 x10_1).f0) < 0) = true := decide_eq_true c20
                            clear c20
                            have H' := Aside0.mk H
                            clear H
                            have hnb21 := NB396_394.out
                            have hnc21 := NB394_396.out
                            have hnb22 := NB396_398.out
                            have hnc22 := NB398_396.out
                            have hcz23_0 : w15.cell? ⟨gb396, 0, none⟩ = some (.int .i64 ((rd_T46 l0_1 x10_1).f0)) := (blk_cell BK396.out 0).trans rfl
                            have hcz23_1 : w15.cell? ⟨gb396, 1, none⟩ = some (.int .i64 ((rd_T46 l0_1 x10_1).f1)) := (blk_cell BK396.out 1).trans rfl
                            have hcz23_2 : w15.cell? ⟨gb396, 2, none⟩ = some (.slice A395_2 ((rd_T46 l0_1 x10_1).f2).length c395_2) := (blk_cell BK396.out 2).trans rfl
                            have hcz23_3 : w15.cell? ⟨gb396, 3, none⟩ = some (.int .i64 ((rd_T46 l0_1 x10_1).f3)) := (blk_cell BK396.out 3).trans rfl
                            have hcz23_4 : w15.cell? ⟨gb396, 4, none⟩ = some (.int .i64 ((rd_T46 l0_1 x10_1).f4)) := (blk_cell BK396.out 4).trans rfl
                            have hcz23_5 : w15.cell? ⟨gb396, 5, none⟩ = some (.slice A395_5 ((rd_T46 l0_1 x10_1).f5).length c395_5) := (blk_cell BK396.out 5).trans rfl
                            have hcz23_6 : w15.cell? ⟨gb396, 6, none⟩ = some (.slice A395_6 ((rd_T46 l0_1 x10_1).f6).length c395_6) := (blk_cell BK396.out 6).trans rfl
                            have hcz23_7 : w15.cell? ⟨gb396, 7, none⟩ = some (.slice A395_7 ((rd_T46 l0_1 x10_1).f7).length c395_7) := (blk_cell BK396.out 7).trans rfl
                            have hfz23_0 := blk_frozen BK396.out 0
                            have hfz23_1 := blk_frozen BK396.out 1
                            have hfz23_2 := blk_frozen BK396.out 2
                            have hfz23_3 := blk_frozen BK396.out 3
                            have hfz23_4 := blk_frozen BK396.out 4
                            have hfz23_5 := blk_frozen BK396.out 5
                            have hfz23_6 := blk_frozen BK396.out 6
                            have hfz23_7 := blk_frozen BK396.out 7
                            go_wp2
                            go_meet
                            case rel => exact ⟨_, (true), (by first | rfl | (simp; done) | (simp [*]; done)), H', ⟨by have := HK1.out; have := HK2.out; first | omega | exact Nat.le_refl _⟩, ⟨by (with_reducible repeat (first | refine blk_drewN ?_ _ | refine blk_drew ?_ | refine blk_alloc ?_ _)); refine blk_far ?_ NB394_398.out _; (with_reducible repeat (first | refine blk_drewN ?_ _ | refine blk_drew ?_ | refine blk_alloc ?_ _)); refine blk_far ?_ NB394_398.out _; (with_reducible repeat (first | refine blk_drewN ?_ _ | refine blk_drew ?_ | refine blk_alloc ?_ _)); refine blk_far ?_ NB394_398.out _; (with_reducible repeat (first | refine blk_drewN ?_ _ | refine blk_drew ?_ | refine blk_alloc ?_ _)); refine blk_far ?_ NB394_398.out _; (with_reducible repeat (first | refine blk_drewN ?_ _ | refine blk_drew ?_ | refine blk_alloc ?_ _)); refine blk_far ?_ NB394_398.out _; (with_reducible repeat (first | refine blk_drewN ?_ _ | refine blk_drew ?_ | refine blk_alloc ?_ _)); refine blk_far ?_ NB394_398.out _; (with_reducible repeat (first | refine blk_drewN ?_ _ | refine blk_drew ?_ | refine blk_alloc ?_ _)); refine blk_far ?_ NB394_398.out _; (with_reducible repeat (first | refine blk_drewN ?_ _ | refine blk_drew ?_ | refine blk_alloc ?_ _)); refine blk_far ?_ NB394_398.out _; (with_reducible repeat (first | refine blk_drewN ?_ _ | refine blk_drew ?_ | refine blk_alloc ?_ _)); exact BK394.out⟩, ⟨by (with_reducible repeat (first | refine blk_drewN ?_ _ | refine blk_drew ?_ | refine blk_alloc ?_ _)); refine blk_far ?_ NB396_398.out _; (with_reducible repeat (first | refine blk_drewN ?_ _ | refine blk_drew ?_ | refine blk_alloc ?_ _)); refine blk_far ?_ NB396_398.out _; (with_reducible repeat (first | refine blk_drewN ?_ _ | refine blk_drew ?_ | refine blk_alloc ?_ _)); refine blk_far ?_ NB396_398.out _; (with_reducible repeat (first | refine blk_drewN ?_ _ | refine blk_drew ?_ | refine blk_alloc ?_ _)); refine blk_far ?_ NB396_398.out _; (with_reducible repeat (first | refine blk_drewN ?_ _ | refine blk_drew ?_ | refine blk_alloc ?_ _)); refine blk_far ?_ NB396_398.out _; (with_reducible repeat (first | refine blk_drewN ?_ _ | refine blk_drew ?_ | refine blk_alloc ?_ _)); refine blk_far ?_ NB396_398.out _; (with_reducible repeat (first | refine blk_drewN ?_ _ | refine blk_drew ?_ | refine blk_alloc ?_ _)); refine blk_far ?_ NB396_398.out _; (with_reducible repeat (first | refine blk_drewN ?_ _ | refine blk_drew ?_ | refine blk_alloc ?_ _)); refine blk_far ?_ NB396_398.out _; (with_reducible repeat (first | refine blk_drewN ?_ _ | refine blk_drew ?_ | refine blk_alloc ?_ _)); exact BK396.out⟩, ⟨by (with_reducible repeat (first | refine blk_drewN ?_ _ | refine blk_drew ?_ | refine blk_alloc ?_ _)); refine blk_put (cs := #[.int .i64 ((rd_T46 l0_1 x18_2).f0), .int .i64 ((rd_T46 l0_1 x18_2).f1), .slice A397_2 ((rd_T46 l0_1 x18_2).f2).length c397_2, .int .i64 ((rd_T46 l0_1 x18_2).f3), .int .i64 ((rd_T46 l0_1 x18_2).f4), .slice A397_5 ((rd_T46 l0_1 x18_2).f5).length c397_5, .slice A397_6 ((rd_T46 l0_1 x18_2).f6).length c397_6, .slice none 0 0]) ?_ 7 _ rfl; (with_reducible repeat (first | refine blk_drewN ?_ _ | refine blk_drew ?_ | refine blk_alloc ?_ _)); refine blk_put (cs := #[.int .i64 ((rd_T46 l0_1 x18_2).f0), .int .i64 ((rd_T46 l0_1 x18_2).f1), .slice A397_2 ((rd_T46 l0_1 x18_2).f2).length c397_2, .int .i64 ((rd_T46 l0_1 x18_2).f3), .int .i64 ((rd_T46 l0_1 x18_2).f4), .slice A397_5 ((rd_T46 l0_1 x18_2).f5).length c397_5, .slice none 0 0, .slice none 0 0]) ?_ 6 _ rfl; (with_reducible repeat (first | refine blk_drewN ?_ _ | refine blk_drew ?_ | refine blk_alloc ?_ _)); refine blk_put (cs := #[.int .i64 ((rd_T46 l0_1 x18_2).f0), .int .i64 ((rd_T46 l0_1 x18_2).f1), .slice A397_2 ((rd_T46 l0_1 x18_2).f2).length c397_2, .int .i64 ((rd_T46 l0_1 x18_2).f3), .int .i64 ((rd_T46 l0_1 x18_2).f4), .slice none 0 0, .slice none 0 0, .slice none 0 0]) ?_ 5 _ rfl; (with_reducible repeat (first | refine blk_drewN ?_ _ | refine blk_drew ?_ | refine blk_alloc ?_ _)); refine blk_put (cs := #[.int .i64 ((rd_T46 l0_1 x18_2).f0), .int .i64 ((rd_T46 l0_1 x18_2).f1), .slice A397_2 ((rd_T46 l0_1 x18_2).f2).length c397_2, .int .i64 ((rd_T46 l0_1 x18_2).f3), .int .i64 0, .slice none 0 0, .slice none 0 0, .slice none 0 0]) ?_ 4 _ rfl; (with_reducible repeat (first | refine blk_drewN ?_ _ | refine blk_drew ?_ | refine blk_alloc ?_ _)); refine blk_put (cs := #[.int .i64 ((rd_T46 l0_1 x18_2).f0), .int .i64 ((rd_T46 l0_1 x18_2).f1), .slice A397_2 ((rd_T46 l0_1 x18_2).f2).length c397_2, .int .i64 0, .int .i64 0, .slice none 0 0, .slice none 0 0, .slice none 0 0]) ?_ 3 _ rfl; (with_reducible repeat (first | refine blk_drewN ?_ _ | refine blk_drew ?_ | refine blk_alloc ?_ _)); refine blk_put (cs := #[.int .i64 ((rd_T46 l0_1 x18_2).f0), .int .i64 ((rd_T46 l0_1 x18_2).f1), .slice none 0 0, .int .i64 0, .int .i64 0, .slice none 0 0, .slice none 0 0, .slice none 0 0]) ?_ 2 _ rfl; (with_reducible repeat (first | refine blk_drewN ?_ _ | refine blk_drew ?_ | refine blk_alloc ?_ _)); refine blk_put (cs := #[.int .i64 ((rd_T46 l0_1 x18_2).f0), .int .i64 0, .slice none 0 0, .int .i64 0, .int .i64 0, .slice none 0 0, .slice none 0 0, .slice none 0 0]) ?_ 1 _ rfl; (with_reducible repeat (first | refine blk_drewN ?_ _ | refine blk_drew ?_ | refine blk_alloc ?_ _)); refine blk_put (cs := #[.int .i64 0, .int .i64 0, .slice none 0 0, .int .i64 0, .int .i64 0, .slice none 0 0, .slice none 0 0, .slice none 0 0]) ?_ 0 _ rfl; (with_reducible repeat (first | refine blk_drewN ?_ _ | refine blk_drew ?_ | refine blk_alloc ?_ _)); exact BK398.out⟩, ⟨by repeat (first | (with_reducible first | exact HB.out | apply below_alloc | apply pw_below_drewN | apply below_drew1 | refine below_set ?_ GE394.out | refine below_set ?_ GE396.out | refine below_set ?_ GE398.out) | exact HB.out)⟩⟩
                          · rw [if_neg c20] at H
                            have c20b0 : decide (((rd_T46 l0_1 x10_1).f0) < 0) = false := decide_eq_false c20
                            clear c20
                            by_cases c24 : ((rd_T46 l0_1 x18_2).f0) < 0
                            · rw [if_pos c24] at H
                              have c24b0 : decide (((rd_T46 l0_1 x18_2).f0) < 0) = true := decide_eq_true c24
                              clear c24
                              have H' := Aside0.mk H
                              clear H
                              have hnb25 := NB396_394.out
                              have hnc25 := NB394_396.out
                              have hnb26 := NB396_398.out
                              have hnc26 := NB398_396.out
                              have hcz27_0 : w15.cell? ⟨gb396, 0, none⟩ = some (.int .i64 ((rd_T46 l0_1 x10_1).f0)) := (blk_cell BK396.out 0).trans rfl
                              have hcz27_1 : w15.cell? ⟨gb396, 1, none⟩ = some (.int .i64 ((rd_T46 l0_1 x10_1).f1)) := (blk_cell BK396.out 1).trans rfl
                              have hcz27_2 : w15.cell? ⟨gb396, 2, none⟩ = some (.slice A395_2 ((rd_T46 l0_1 x10_1).f2).length c395_2) := (blk_cell BK396.out 2).trans rfl
                              have hcz27_3 : w15.cell? ⟨gb396, 3, none⟩ = some (.int .i64 ((rd_T46 l0_1 x10_1).f3)) := (blk_cell BK396.out 3).trans rfl
                              have hcz27_4 : w15.cell? ⟨gb396, 4, none⟩ = some (.int .i64 ((rd_T46 l0_1 x10_1).f4)) := (blk_cell BK396.out 4).trans rfl
                              have hcz27_5 : w15.cell? ⟨gb396, 5, none⟩ = some (.slice A395_5 ((rd_T46 l0_1 x10_1).f5).length c395_5) := (blk_cell BK396.out 5).trans rfl
                              have hcz27_6 : w15.cell? ⟨gb396, 6, none⟩ = some (.slice A395_6 ((rd_T46 l0_1 x10_1).f6).length c395_6) := (blk_cell BK396.out 6).trans rfl
                              have hcz27_7 : w15.cell? ⟨gb396, 7, none⟩ = some (.slice A395_7 ((rd_T46 l0_1 x10_1).f7).length c395_7) := (blk_cell BK396.out 7).trans rfl
                              have hfz27_0 := blk_frozen BK396.out 0
                              have hfz27_1 := blk_frozen BK396.out 1
                              have hfz27_2 := blk_frozen BK396.out 2
                              have hfz27_3 := blk_frozen BK396.out 3
                              have hfz27_4 := blk_frozen BK396.out 4
                              have hfz27_5 := blk_frozen BK396.out 5
                              have hfz27_6 := blk_frozen BK396.out 6
                              have hfz27_7 := blk_frozen BK396.out 7
                              have hnb28 := NB398_394.out
                              have hnc28 := NB394_398.out
                              have hcz29_0 : w15.cell? ⟨gb398, 0, none⟩ = some (.int .i64 0) := (blk_cell BK398.out 0).trans rfl
                              have hcz29_1 : w15.cell? ⟨gb398, 1, none⟩ = some (.int .i64 0) := (blk_cell BK398.out 1).trans rfl
                              have hcz29_2 : w15.cell? ⟨gb398, 2, none⟩ = some (.slice none 0 0) := (blk_cell BK398.out 2).trans rfl
                              have hcz29_3 : w15.cell? ⟨gb398, 3, none⟩ = some (.int .i64 0) := (blk_cell BK398.out 3).trans rfl
                              have hcz29_4 : w15.cell? ⟨gb398, 4, none⟩ = some (.int .i64 0) := (blk_cell BK398.out 4).trans rfl
                              have hcz29_5 : w15.cell? ⟨gb398, 5, none⟩ = some (.slice none 0 0) := (blk_cell BK398.out 5).trans rfl
                              have hcz29_6 : w15.cell? ⟨gb398, 6, none⟩ = some (.slice none 0 0) := (blk_cell BK398.out 6).trans rfl
                              have hcz29_7 : w15.cell? ⟨gb398, 7, none⟩ = some (.slice none 0 0) := (blk_cell BK398.out 7).trans rfl
                              have hfz29_0 := blk_frozen BK398.out 0
                              have hfz29_1 := blk_frozen BK398.out 1
                              have hfz29_2 := blk_frozen BK398.out 2
                              have hfz29_3 := blk_frozen BK398.out 3
                              have hfz29_4 := blk_frozen BK398.out 4
                              have hfz29_5 := blk_frozen BK398.out 5
                              have hfz29_6 := blk_frozen BK398.out 6
                              have hfz29_7 := blk_frozen BK398.out 7
                              go_wp2
                              go_meet
                              case rel => exact ⟨_, (true), (by first | rfl | (simp; done) | (simp [*]; done)), H', ⟨by have := HK1.out; have := HK2.out; first | omega | exact Nat.le_refl _⟩, ⟨by (with_reducible repeat (first | refine blk_drewN ?_ _ | refine blk_drew ?_ | refine blk_alloc ?_ _)); refine blk_far ?_ NB394_398.out _; (with_reducible repeat (first | refine blk_drewN ?_ _ | refine blk_drew ?_ | refine blk_alloc ?_ _)); refine blk_far ?_ NB394_398.out _; (with_reducible repeat (first | refine blk_drewN ?_ _ | refine blk_drew ?_ | refine blk_alloc ?_ _)); refine blk_far ?_ NB394_398.out _; (with_reducible repeat (first | refine blk_drewN ?_ _ | refine blk_drew ?_ | refine blk_alloc ?_ _)); refine blk_far ?_ NB394_398.out _; (with_reducible repeat (first | refine blk_drewN ?_ _ | refine blk_drew ?_ | refine blk_alloc ?_ _)); refine blk_far ?_ NB394_398.out _; (with_reducible repeat (first | refine blk_drewN ?_ _ | refine blk_drew ?_ | refine blk_alloc ?_ _)); refine blk_far ?_ NB394_398.out _; (with_reducible repeat (first | refine blk_drewN ?_ _ | refine blk_drew ?_ | refine blk_alloc ?_ _)); refine blk_far ?_ NB394_398.out _; (with_reducible repeat (first | refine blk_drewN ?_ _ | refine blk_drew ?_ | refine blk_alloc ?_ _)); refine blk_far ?_ NB394_398.out _; (with_reducible repeat (first | refine blk_drewN ?_ _ | refine blk_drew ?_ | refine blk_alloc ?_ _)); exact BK394.out⟩, ⟨by (with_reducible repeat (first | refine blk_drewN ?_ _ | refine blk_drew ?_ | refine blk_alloc ?_ _)); refine blk_far ?_ NB396_398.out _; (with_reducible repeat (first | refine blk_drewN ?_ _ | refine blk_drew ?_ | refine blk_alloc ?_ _)); refine blk_far ?_ NB396_398.out _; (with_reducible repeat (first | refine blk_drewN ?_ _ | refine blk_drew ?_ | refine blk_alloc ?_ _)); refine blk_far ?_ NB396_398.out _; (with_reducible repeat (first | refine blk_drewN ?_ _ | refine blk_drew ?_ | refine blk_alloc ?_ _)); refine blk_far ?_ NB396_398.out _; (with_reducible repeat (first | refine blk_drewN ?_ _ | refine blk_drew ?_ | refine blk_alloc ?_ _)); refine blk_far ?_ NB396_398.out _; (with_reducible repeat (first | refine blk_drewN ?_ _ | refine blk_drew ?_ | refine blk_alloc ?_ _)); refine blk_far ?_ NB396_398.out _; (with_reducible repeat (first | refine blk_drewN ?_ _ | refine blk_drew ?_ | refine blk_alloc ?_ _)); refine blk_far ?_ NB396_398.out _; (with_reducible repeat (first | refine blk_drewN ?_ _ | refine blk_drew ?_ | refine blk_alloc ?_ _)); refine blk_far ?_ NB396_398.out _; (with_reducible repeat (first | refine blk_drewN ?_ _ | refine blk_drew ?_ | refine blk_alloc ?_ _)); exact BK396.out⟩, ⟨by (with_reducible repeat (first | refine blk_drewN ?_ _ | refine blk_drew ?_ | refine blk_alloc ?_ _)); refine blk_put (cs := #[.int .i64 ((rd_T46 l0_1 x18_2).f0), .int .i64 ((rd_T46 l0_1 x18_2).f1), .slice A397_2 ((rd_T46 l0_1 x18_2).f2).length c397_2, .int .i64 ((rd_T46 l0_1 x18_2).f3), .int .i64 ((rd_T46 l0_1 x18_2).f4), .slice A397_5 ((rd_T46 l0_1 x18_2).f5).length c397_5, .slice A397_6 ((rd_T46 l0_1 x18_2).f6).length c397_6, .slice none 0 0]) ?_ 7 _ rfl; (with_reducible repeat (first | refine blk_drewN ?_ _ | refine blk_drew ?_ | refine blk_alloc ?_ _)); refine blk_put (cs := #[.int .i64 ((rd_T46 l0_1 x18_2).f0), .int .i64 ((rd_T46 l0_1 x18_2).f1), .slice A397_2 ((rd_T46 l0_1 x18_2).f2).length c397_2, .int .i64 ((rd_T46 l0_1 x18_2).f3), .int .i64 ((rd_T46 l0_1 x18_2).f4), .slice A397_5 ((rd_T46 l0_1 x18_2).f5).length c397_5, .slice none 0 0, .slice none 0 0]) ?_ 6 _ rfl; (with_reducible repeat (first | refine blk_drewN ?_ _ | refine blk_drew ?_ | refine blk_alloc ?_ _)); refine blk_put (cs := #[.int .i64 ((rd_T46 l0_1 x18_2).f0), .int .i64 ((rd_T46 l0_1 x18_2).f1), .slice A397_2 ((rd_T46 l0_1 x18_2).f2).length c397_2, .int .i64 ((rd_T46 l0_1 x18_2).f3), .int .i64 ((rd_T46 l0_1 x18_2).f4), .slice none 0 0, .slice none 0 0, .slice none 0 0]) ?_ 5 _ rfl; (with_reducible repeat (first | refine blk_drewN ?_ _ | refine blk_drew ?_ | refine blk_alloc ?_ _)); refine blk_put (cs := #[.int .i64 ((rd_T46 l0_1 x18_2).f0), .int .i64 ((rd_T46 l0_1 x18_2).f1), .slice A397_2 ((rd_T46 l0_1 x18_2).f2).length c397_2, .int .i64 ((rd_T46 l0_1 x18_2).f3), .int .i64 0, .slice none 0 0, .slice none 0 0, .slice none 0 0]) ?_ 4 _ rfl; (with_reducible repeat (first | refine blk_drewN ?_ _ | refine blk_drew ?_ | refine blk_alloc ?_ _)); refine blk_put (cs := #[.int .i64 ((rd_T46 l0_1 x18_2).f0), .int .i64 ((rd_T46 l0_1 x18_2).f1), .slice A397_2 ((rd_T46 l0_1 x18_2).f2).length c397_2, .int .i64 0, .int .i64 0, .slice none 0 0, .slice none 0 0, .slice none 0 0]) ?_ 3 _ rfl; (with_reducible repeat (first | refine blk_drewN ?_ _ | refine blk_drew ?_ | refine blk_alloc ?_ _)); refine blk_put (cs := #[.int .i64 ((rd_T46 l0_1 x18_2).f0), .int .i64 ((rd_T46 l0_1 x18_2).f1), .slice none 0 0, .int .i64 0, .int .i64 0, .slice none 0 0, .slice none 0 0, .slice none 0 0]) ?_ 2 _ rfl; (with_reducible repeat (first | refine blk_drewN ?_ _ | refine blk_drew ?_ | refine blk_alloc ?_ _)); refine blk_put (cs := #[.int .i64 ((rd_T46 l0_1 x18_2).f0), .int .i64 0, .slice none 0 0, .int .i64 0, .int .i64 0, .slice none 0 0, .slice none 0 0, .slice none 0 0]) ?_ 1 _ rfl; (with_reducible repeat (first | refine blk_drewN ?_ _ | refine blk_drew ?_ | refine blk_alloc ?_ _)); refine blk_put (cs := #[.int .i64 0, .int .i64 0, .slice none 0 0, .int .i64 0, .int .i64 0, .slice none 0 0, .slice none 0 0, .slice none 0 0]) ?_ 0 _ rfl; (with_reducible repeat (first | refine blk_drewN ?_ _ | refine blk_drew ?_ | refine blk_alloc ?_ _)); exact BK398.out⟩, ⟨by repeat (first | (with_reducible first | exact HB.out | apply below_alloc | apply pw_below_drewN | apply below_drew1 | refine below_set ?_ GE394.out | refine below_set ?_ GE396.out | refine below_set ?_ GE398.out) | exact HB.out)⟩⟩
                            · rw [if_neg c24] at H
                              have c24b0 : decide (((rd_T46 l0_1 x18_2).f0) < 0) = false := decide_eq_false c24
                              clear c24
                              have H' := Aside0.mk H
                              clear H
                              have hnb30 := NB396_394.out
                              have hnc30 := NB394_396.out
                              have hnb31 := NB396_398.out
                              have hnc31 := NB398_396.out
                              have hcz32_0 : w15.cell? ⟨gb396, 0, none⟩ = some (.int .i64 ((rd_T46 l0_1 x10_1).f0)) := (blk_cell BK396.out 0).trans rfl
                              have hcz32_1 : w15.cell? ⟨gb396, 1, none⟩ = some (.int .i64 ((rd_T46 l0_1 x10_1).f1)) := (blk_cell BK396.out 1).trans rfl
                              have hcz32_2 : w15.cell? ⟨gb396, 2, none⟩ = some (.slice A395_2 ((rd_T46 l0_1 x10_1).f2).length c395_2) := (blk_cell BK396.out 2).trans rfl
                              have hcz32_3 : w15.cell? ⟨gb396, 3, none⟩ = some (.int .i64 ((rd_T46 l0_1 x10_1).f3)) := (blk_cell BK396.out 3).trans rfl
                              have hcz32_4 : w15.cell? ⟨gb396, 4, none⟩ = some (.int .i64 ((rd_T46 l0_1 x10_1).f4)) := (blk_cell BK396.out 4).trans rfl
                              have hcz32_5 : w15.cell? ⟨gb396, 5, none⟩ = some (.slice A395_5 ((rd_T46 l0_1 x10_1).f5).length c395_5) := (blk_cell BK396.out 5).trans rfl
                              have hcz32_6 : w15.cell? ⟨gb396, 6, none⟩ = some (.slice A395_6 ((rd_T46 l0_1 x10_1).f6).length c395_6) := (blk_cell BK396.out 6).trans rfl
                              have hcz32_7 : w15.cell? ⟨gb396, 7, none⟩ = some (.slice A395_7 ((rd_T46 l0_1 x10_1).f7).length c395_7) := (blk_cell BK396.out 7).trans rfl
                              have hfz32_0 := blk_frozen BK396.out 0
                              have hfz32_1 := blk_frozen BK396.out 1
                              have hfz32_2 := blk_frozen BK396.out 2
                              have hfz32_3 := blk_frozen BK396.out 3
                              have hfz32_4 := blk_frozen BK396.out 4
                              have hfz32_5 := blk_frozen BK396.out 5
                              have hfz32_6 := blk_frozen BK396.out 6
                              have hfz32_7 := blk_frozen BK396.out 7
                              have hnb33 := NB398_394.out
                              have hnc33 := NB394_398.out
                              have hcz34_0 : w15.cell? ⟨gb398, 0, none⟩ = some (.int .i64 0) := (blk_cell BK398.out 0).trans rfl
                              have hcz34_1 : w15.cell? ⟨gb398, 1, none⟩ = some (.int .i64 0) := (blk_cell BK398.out 1).trans rfl
                              have hcz34_2 : w15.cell? ⟨gb398, 2, none⟩ = some (.slice none 0 0) := (blk_cell BK398.out 2).trans rfl
                              have hcz34_3 : w15.cell? ⟨gb398, 3, none⟩ = some (.int .i64 0) := (blk_cell BK398.out 3).trans rfl
                              have hcz34_4 : w15.cell? ⟨gb398, 4, none⟩ = some (.int .i64 0) := (blk_cell BK398.out 4).trans rfl
                              have hcz34_5 : w15.cell? ⟨gb398, 5, none⟩ = some (.slice none 0 0) := (blk_cell BK398.out 5).trans rfl
                              have hcz34_6 : w15.cell? ⟨gb398, 6, none⟩ = some (.slice none 0 0) := (blk_cell BK398.out 6).trans rfl
                              have hcz34_7 : w15.cell? ⟨gb398, 7, none⟩ = some (.slice none 0 0) := (blk_cell BK398.out 7).trans rfl
                              have hfz34_0 := blk_frozen BK398.out 0
                              have hfz34_1 := blk_frozen BK398.out 1
                              have hfz34_2 := blk_frozen BK398.out 2
                              have hfz34_3 := blk_frozen BK398.out 3
                              have hfz34_4 := blk_frozen BK398.out 4
                              have hfz34_5 := blk_frozen BK398.out 5
                              have hfz34_6 := blk_frozen BK398.out 6
                              have hfz34_7 := blk_frozen BK398.out 7
                              go_wp2
                              go_meet
                              case rel => exact ⟨_, ((((rd_T46 l0_1 x10_1).f1) != ((rd_T46 l0_1 x18_2).f1))), (by first | rfl | (simp; done) | (simp [*]; done)), H', ⟨by have := HK1.out; have := HK2.out; first | omega | exact Nat.le_refl _⟩, ⟨by (with_reducible repeat (first | refine blk_drewN ?_ _ | refine blk_drew ?_ | refine blk_alloc ?_ _)); refine blk_far ?_ NB394_398.out _; (with_reducible repeat (first | refine blk_drewN ?_ _ | refine blk_drew ?_ | refine blk_alloc ?_ _)); refine blk_far ?_ NB394_398.out _; (with_reducible repeat (first | refine blk_drewN ?_ _ | refine blk_drew ?_ | refine blk_alloc ?_ _)); refine blk_far ?_ NB394_398.out _; (with_reducible repeat (first | refine blk_drewN ?_ _ | refine blk_drew ?_ | refine blk_alloc ?_ _)); refine blk_far ?_ NB394_398.out _; (with_reducible repeat (first | refine blk_drewN ?_ _ | refine blk_drew ?_ | refine blk_alloc ?_ _)); refine blk_far ?_ NB394_398.out _; (with_reducible repeat (first | refine blk_drewN ?_ _ | refine blk_drew ?_ | refine blk_alloc ?_ _)); refine blk_far ?_ NB394_398.out _; (with_reducible repeat (first | refine blk_drewN ?_ _ | refine blk_drew ?_ | refine blk_alloc ?_ _)); refine blk_far ?_ NB394_398.out _; (with_reducible repeat (first | refine blk_drewN ?_ _ | refine blk_drew ?_ | refine blk_alloc ?_ _)); refine blk_far ?_ NB394_398.out _; (with_reducible repeat (first | refine blk_drewN ?_ _ | refine blk_drew ?_ | refine blk_alloc ?_ _)); exact BK394.out⟩, ⟨by (with_reducible repeat (first | refine blk_drewN ?_ _ | refine blk_drew ?_ | refine blk_alloc ?_ _)); refine blk_far ?_ NB396_398.out _; (with_reducible repeat (first | refine blk_drewN ?_ _ | refine blk_drew ?_ | refine blk_alloc ?_ _)); refine blk_far ?_ NB396_398.out _; (with_reducible repeat (first | refine blk_drewN ?_ _ | refine blk_drew ?_ | refine blk_alloc ?_ _)); refine blk_far ?_ NB396_398.out _; (with_reducible repeat (first | refine blk_drewN ?_ _ | refine blk_drew ?_ | refine blk_alloc ?_ _)); refine blk_far ?_ NB396_398.out _; (with_reducible repeat (first | refine blk_drewN ?_ _ | refine blk_drew ?_ | refine blk_alloc ?_ _)); refine blk_far ?_ NB396_398.out _; (with_reducible repeat (first | refine blk_drewN ?_ _ | refine blk_drew ?_ | refine blk_alloc ?_ _)); refine blk_far ?_ NB396_398.out _; (with_reducible repeat (first | refine blk_drewN ?_ _ | refine blk_drew ?_ | refine blk_alloc ?_ _)); refine blk_far ?_ NB396_398.out _; (with_reducible repeat (first | refine blk_drewN ?_ _ | refine blk_drew ?_ | refine blk_alloc ?_ _)); refine blk_far ?_ NB396_398.out _; (with_reducible repeat (first | refine blk_drewN ?_ _ | refine blk_drew ?_ | refine blk_alloc ?_ _)); exact BK396.out⟩, ⟨by (with_reducible repeat (first | refine blk_drewN ?_ _ | refine blk_drew ?_ | refine blk_alloc ?_ _)); refine blk_put (cs := #[.int .i64 ((rd_T46 l0_1 x18_2).f0), .int .i64 ((rd_T46 l0_1 x18_2).f1), .slice A397_2 ((rd_T46 l0_1 x18_2).f2).length c397_2, .int .i64 ((rd_T46 l0_1 x18_2).f3), .int .i64 ((rd_T46 l0_1 x18_2).f4), .slice A397_5 ((rd_T46 l0_1 x18_2).f5).length c397_5, .slice A397_6 ((rd_T46 l0_1 x18_2).f6).length c397_6, .slice none 0 0]) ?_ 7 _ rfl; (with_reducible repeat (first | refine blk_drewN ?_ _ | refine blk_drew ?_ | refine blk_alloc ?_ _)); refine blk_put (cs := #[.int .i64 ((rd_T46 l0_1 x18_2).f0), .int .i64 ((rd_T46 l0_1 x18_2).f1), .slice A397_2 ((rd_T46 l0_1 x18_2).f2).length c397_2, .int .i64 ((rd_T46 l0_1 x18_2).f3), .int .i64 ((rd_T46 l0_1 x18_2).f4), .slice A397_5 ((rd_T46 l0_1 x18_2).f5).length c397_5, .slice none 0 0, .slice none 0 0]) ?_ 6 _ rfl; (with_reducible repeat (first | refine blk_drewN ?_ _ | refine blk_drew ?_ | refine blk_alloc ?_ _)); refine blk_put (cs := #[.int .i64 ((rd_T46 l0_1 x18_2).f0), .int .i64 ((rd_T46 l0_1 x18_2).f1), .slice A397_2 ((rd_T46 l0_1 x18_2).f2).length c397_2, .int .i64 ((rd_T46 l0_1 x18_2).f3), .int .i64 ((rd_T46 l0_1 x18_2).f4), .slice none 0 0, .slice none 0 0, .slice none 0 0]) ?_ 5 _ rfl; (with_reducible repeat (first | refine blk_drewN ?_ _ | refine blk_drew ?_ | refine blk_alloc ?_ _)); refine blk_put (cs := #[.int .i64 ((rd_T46 l0_1 x18_2).f0), .int .i64 ((rd_T46 l0_1 x18_2).f1), .slice A397_2 ((rd_T46 l0_1 x18_2).f2).length c397_2, .int .i64 ((rd_T46 l0_1 x18_2).f3), .int .i64 0, .slice none 0 0, .slice none 0 0, .slice none 0 0]) ?_ 4 _ rfl; (with_reducible repeat (first | refine blk_drewN ?_ _ | refine blk_drew ?_ | refine blk_alloc ?_ _)); refine blk_put (cs := #[.int .i64 ((rd_T46 l0_1 x18_2).f0), .int .i64 ((rd_T46 l0_1 x18_2).f1), .slice A397_2 ((rd_T46 l0_1 x18_2).f2).length c397_2, .int .i64 0, .int .i64 0, .slice none 0 0, .slice none 0 0, .slice none 0 0]) ?_ 3 _ rfl; (with_reducible repeat (first | refine blk_drewN ?_ _ | refine blk_drew ?_ | refine blk_alloc ?_ _)); refine blk_put (cs := #[.int .i64 ((rd_T46 l0_1 x18_2).f0), .int .i64 ((rd_T46 l0_1 x18_2).f1), .slice none 0 0, .int .i64 0, .int .i64 0, .slice none 0 0, .slice none 0 0, .slice none 0 0]) ?_ 2 _ rfl; (with_reducible repeat (first | refine blk_drewN ?_ _ | refine blk_drew ?_ | refine blk_alloc ?_ _)); refine blk_put (cs := #[.int .i64 ((rd_T46 l0_1 x18_2).f0), .int .i64 0, .slice none 0 0, .int .i64 0, .int .i64 0, .slice none 0 0, .slice none 0 0, .slice none 0 0]) ?_ 1 _ rfl; (with_reducible repeat (first | refine blk_drewN ?_ _ | refine blk_drew ?_ | refine blk_alloc ?_ _)); refine blk_put (cs := #[.int .i64 0, .int .i64 0, .slice none 0 0, .int .i64 0, .int .i64 0, .slice none 0 0, .slice none 0 0, .slice none 0 0]) ?_ 0 _ rfl; (with_reducible repeat (first | refine blk_drewN ?_ _ | refine blk_drew ?_ | refine blk_alloc ?_ _)); exact BK398.out⟩, ⟨by repeat (first | (with_reducible first | exact HB.out | apply below_alloc | apply pw_below_drewN | apply below_drew1 | refine below_set ?_ GE394.out | refine below_set ?_ GE396.out | refine below_set ?_ GE398.out) | exact HB.out)⟩⟩
                      case rest =>
                        clear HC14
                        try clear c1
                        try clear c2
                        try clear p2
                        try clear c3
                        try clear p3
                        try clear q3
                        try clear hx3
                        try clear c4
                        try clear c4b0
                        try clear c5
                        try clear c5b0
                        try clear c6
                        try clear c6b0
                        try clear c8
                        try clear c11
                        try clear c11b0
                        try clear c12
                        try clear c12b0
                        try clear c13
                        try clear c13b0
                        try clear c16
                        try clear c17
                        try clear c19
                        try clear c19b0
                        try clear c19b1
                        try clear c20
                        try clear c20b0
                        try clear c21
                        try clear c22
                        try clear c24
                        try clear c24b0
                        try clear c25
                        try clear c26
                        try clear c28
                        try clear c30
                        try clear c31
                        try clear c33
                        try clear hcz10_0
                        try clear hcz10_1
                        try clear hcz18_0
                        try clear hcz18_1
                        try clear hcz18_2
                        try clear hcz18_3
                        try clear hcz18_4
                        try clear hcz18_5
                        try clear hcz18_6
                        try clear hcz18_7
                        try clear hcz23_0
                        try clear hcz23_1
                        try clear hcz23_2
                        try clear hcz23_3
                        try clear hcz23_4
                        try clear hcz23_5
                        try clear hcz23_6
                        try clear hcz23_7
                        try clear hcz27_0
                        try clear hcz27_1
                        try clear hcz27_2
                        try clear hcz27_3
                        try clear hcz27_4
                        try clear hcz27_5
                        try clear hcz27_6
                        try clear hcz27_7
                        try clear hcz29_0
                        try clear hcz29_1
                        try clear hcz29_2
                        try clear hcz29_3
                        try clear hcz29_4
                        try clear hcz29_5
                        try clear hcz29_6
                        try clear hcz29_7
                        try clear hcz32_0
                        try clear hcz32_1
                        try clear hcz32_2
                        try clear hcz32_3
                        try clear hcz32_4
                        try clear hcz32_5
                        try clear hcz32_6
                        try clear hcz32_7
                        try clear hcz34_0
                        try clear hcz34_1
                        try clear hcz34_2
                        try clear hcz34_3
                        try clear hcz34_4
                        try clear hcz34_5
                        try clear hcz34_6
                        try clear hcz34_7
                        try clear hcz3_0
                        try clear hcz3_1
                        try clear hcz9_0
                        try clear hcz9_1
                        try clear hcz9_2
                        try clear hcz9_3
                        try clear hcz9_4
                        try clear hcz9_5
                        try clear hcz9_6
                        try clear hcz9_7
                        try clear hfz10_0
                        try clear hfz10_1
                        try clear hfz18_0
                        try clear hfz18_1
                        try clear hfz18_2
                        try clear hfz18_3
                        try clear hfz18_4
                        try clear hfz18_5
                        try clear hfz18_6
                        try clear hfz18_7
                        try clear hfz23_0
                        try clear hfz23_1
                        try clear hfz23_2
                        try clear hfz23_3
                        try clear hfz23_4
                        try clear hfz23_5
                        try clear hfz23_6
                        try clear hfz23_7
                        try clear hfz27_0
                        try clear hfz27_1
                        try clear hfz27_2
                        try clear hfz27_3
                        try clear hfz27_4
                        try clear hfz27_5
                        try clear hfz27_6
                        try clear hfz27_7
                        try clear hfz29_0
                        try clear hfz29_1
                        try clear hfz29_2
                        try clear hfz29_3
                        try clear hfz29_4
                        try clear hfz29_5
                        try clear hfz29_6
                        try clear hfz29_7
                        try clear hfz32_0
                        try clear hfz32_1
                        try clear hfz32_2
                        try clear hfz32_3
                        try clear hfz32_4
                        try clear hfz32_5
                        try clear hfz32_6
                        try clear hfz32_7
                        try clear hfz34_0
                        try clear hfz34_1
                        try clear hfz34_2
                        try clear hfz34_3
                        try clear hfz34_4
                        try clear hfz34_5
                        try clear hfz34_6
                        try clear hfz34_7
                        try clear hfz3_0
                        try clear hfz3_1
                        try clear hfz9_0
                        try clear hfz9_1
                        try clear hfz9_2
                        try clear hfz9_3
                        try clear hfz9_4
                        try clear hfz9_5
                        try clear hfz9_6
                        try clear hfz9_7
                        try clear hx395_0
                        try clear hx395_1
                        try clear hx395_2
                        try clear hx395_3
                        try clear hx395_4
                        try clear hx395_5
                        try clear hx395_6
                        try clear hx395_7
                        try clear hx397_0
                        try clear hx397_1
                        try clear hx397_2
                        try clear hx397_3
                        try clear hx397_4
                        try clear hx397_5
                        try clear hx397_6
                        try clear hx397_7
                        try clear p2
                        try clear p3
                        try clear p395
                        try clear p397
                        try clear q3
                        try clear q395
                        try clear q397
                        obtain ⟨kq, x42_13, rfl, HA, HJ13, BK394, BK396, BK398, HB⟩ := hcut
                        cases kq with
                        | zero => exact absurd HA.out (by simp [impl_agree.j2])
                        | succ kj13 =>
                          have H := HA.out
                          clear HA
                          simp only [impl_agree.j2] at H
                          by_cases c35 : x42_13 = true
                          · subst c35
                            have H1 : (impl_agree.l1 kj13 x10_1 l0_1 (l0_1.length : Int) x10_1 l0_1 (l0_1.length : Int) (wrap64 (x18_2 + 1)) l0_0 l0_1 ((rd_T46 l0_1 x10_1).f0) ((rd_T46 l0_1 x10_1).f1) ((rd_T46 l0_1 x10_1).f2) ((rd_T46 l0_1 x10_1).f3) ((rd_T46 l0_1 x10_1).f4) ((rd_T46 l0_1 x10_1).f5) ((rd_T46 l0_1 x10_1).f6) ((rd_T46 l0_1 x10_1).f7)) = some r := by rw [if_pos rfl] at H; exact H
                            clear H
                            have H := H1
                            clear H1
                            have H' := Aside0.mk H
                            clear H
                            go_wp2
                            go_roundg kj13
                            case measure => have := HK1.out; have := HK2.out; have := HJ13.out; omega
                            case rel => exact ⟨(wrap64 (x18_2 + 1)), (by first | rfl | (simp; done) | (simp [*]; done)), H', ⟨by have := HK1.out; have := HK2.out; have := HJ13.out; omega⟩, ⟨by (with_reducible repeat (first | refine blk_drewN ?_ _ | refine blk_drew ?_ | refine blk_alloc ?_ _)); exact BK394.out⟩, ⟨by (with_reducible repeat (first | refine blk_drewN ?_ _ | refine blk_drew ?_ | refine blk_alloc ?_ _)); exact BK396.out⟩, ⟨by repeat (first | (with_reducible first | exact HB.out | apply below_alloc | apply pw_below_drewN | apply below_drew1 | refine below_set ?_ GE394.out | refine below_set ?_ GE396.out | refine below_set ?_ GE398.out) | exact HB.out)⟩⟩
                          · replace c35 := Bool.eq_false_iff.mpr c35
                            subst c35
                            have H1 : (if ((rd_T46 l0_1 x10_1).f0) = ((rd_T46 l0_1 x18_2).f0) then (some false) else ((impl_classUp.f kj13 l0_0 ((rd_T46 l0_1 x10_1).f0) ((rd_T46 l0_1 x18_2).f0)).bind fun t399 => (if t399 = true then (if ((rd_T46 l0_1 x10_1).f3) = ((rd_T46 l0_1 x18_2).f3) then ((slices_Equal_int_int.f kj13 ((rd_T46 l0_1 x10_1).f2) ((rd_T46 l0_1 x18_2).f2)).bind fun t400 => (if t400 = true then (impl_agree.l1 kj13 x10_1 l0_1 (l0_1.length : Int) x10_1 l0_1 (l0_1.length : Int) (wrap64 (x18_2 + 1)) l0_0 l0_1 ((rd_T46 l0_1 x10_1).f0) ((rd_T46 l0_1 x10_1).f1) ((rd_T46 l0_1 x10_1).f2) ((rd_T46 l0_1 x10_1).f3) ((rd_T46 l0_1 x10_1).f4) ((rd_T46 l0_1 x10_1).f5) ((rd_T46 l0_1 x10_1).f6) ((rd_T46 l0_1 x10_1).f7)) else (some false))) else (some false)) else (impl_agree.l1 kj13 x10_1 l0_1 (l0_1.length : Int) x10_1 l0_1 (l0_1.length : Int) (wrap64 (x18_2 + 1)) l0_0 l0_1 ((rd_T46 l0_1 x10_1).f0) ((rd_T46 l0_1 x10_1).f1) ((rd_T46 l0_1 x10_1).f2) ((rd_T46 l0_1 x10_1).f3) ((rd_T46 l0_1 x10_1).f4) ((rd_T46 l0_1 x10_1).f5) ((rd_T46 l0_1 x10_1).f6) ((rd_T46 l0_1 x10_1).f7))))) = some r := by rw [if_neg (show ¬ (false = true) by decide)] at H; exact H
                            clear H
                            have H := H1
                            clear H1
                            by_cases c36 : ((rd_T46 l0_1 x10_1).f0) = ((rd_T46 l0_1 x18_2).f0)
                            · rw [if_pos c36] at H
                              have c36b0 : (((rd_T46 l0_1 x10_1).f0) == ((rd_T46 l0_1 x18_2).f0)) = true := beq_iff_eq.mpr c36
                              have c36b1 : (((rd_T46 l0_1 x10_1).f0) != ((rd_T46 l0_1 x18_2).f0)) = false := bne_eq_false_iff_eq.mpr c36
                              clear c36
                              obtain rfl := Option.some.inj H
                              simp only [Option.some.injEq, Prod.mk.injEq] at H
                              obtain ⟨rfl⟩ := H
                              have hnb37 := NB396_394.out
                              have hnc37 := NB394_396.out
                              have hnb38 := NB396_398.out
                              have hnc38 := NB398_396.out
                              have hcz39_0 : wc.cell? ⟨gb396, 0, none⟩ = some (.int .i64 ((rd_T46 l0_1 x10_1).f0)) := (blk_cell BK396.out 0).trans rfl
                              have hcz39_1 : wc.cell? ⟨gb396, 1, none⟩ = some (.int .i64 ((rd_T46 l0_1 x10_1).f1)) := (blk_cell BK396.out 1).trans rfl
                              have hcz39_2 : wc.cell? ⟨gb396, 2, none⟩ = some (.slice A395_2 ((rd_T46 l0_1 x10_1).f2).length c395_2) := (blk_cell BK396.out 2).trans rfl
                              have hcz39_3 : wc.cell? ⟨gb396, 3, none⟩ = some (.int .i64 ((rd_T46 l0_1 x10_1).f3)) := (blk_cell BK396.out 3).trans rfl
                              have hcz39_4 : wc.cell? ⟨gb396, 4, none⟩ = some (.int .i64 ((rd_T46 l0_1 x10_1).f4)) := (blk_cell BK396.out 4).trans rfl
                              have hcz39_5 : wc.cell? ⟨gb396, 5, none⟩ = some (.slice A395_5 ((rd_T46 l0_1 x10_1).f5).length c395_5) := (blk_cell BK396.out 5).trans rfl
                              have hcz39_6 : wc.cell? ⟨gb396, 6, none⟩ = some (.slice A395_6 ((rd_T46 l0_1 x10_1).f6).length c395_6) := (blk_cell BK396.out 6).trans rfl
                              have hcz39_7 : wc.cell? ⟨gb396, 7, none⟩ = some (.slice A395_7 ((rd_T46 l0_1 x10_1).f7).length c395_7) := (blk_cell BK396.out 7).trans rfl
                              have hfz39_0 := blk_frozen BK396.out 0
                              have hfz39_1 := blk_frozen BK396.out 1
                              have hfz39_2 := blk_frozen BK396.out 2
                              have hfz39_3 := blk_frozen BK396.out 3
                              have hfz39_4 := blk_frozen BK396.out 4
                              have hfz39_5 := blk_frozen BK396.out 5
                              have hfz39_6 := blk_frozen BK396.out 6
                              have hfz39_7 := blk_frozen BK396.out 7
                              have hnb40 := NB398_394.out
                              have hnc40 := NB394_398.out
                              have hcz41_0 : wc.cell? ⟨gb398, 0, none⟩ = some (.int .i64 ((rd_T46 l0_1 x18_2).f0)) := (blk_cell BK398.out 0).trans rfl
                              have hcz41_1 : wc.cell? ⟨gb398, 1, none⟩ = some (.int .i64 ((rd_T46 l0_1 x18_2).f1)) := (blk_cell BK398.out 1).trans rfl
                              have hcz41_2 : wc.cell? ⟨gb398, 2, none⟩ = some (.slice A397_2 ((rd_T46 l0_1 x18_2).f2).length c397_2) := (blk_cell BK398.out 2).trans rfl
                              have hcz41_3 : wc.cell? ⟨gb398, 3, none⟩ = some (.int .i64 ((rd_T46 l0_1 x18_2).f3)) := (blk_cell BK398.out 3).trans rfl
                              have hcz41_4 : wc.cell? ⟨gb398, 4, none⟩ = some (.int .i64 ((rd_T46 l0_1 x18_2).f4)) := (blk_cell BK398.out 4).trans rfl
                              have hcz41_5 : wc.cell? ⟨gb398, 5, none⟩ = some (.slice A397_5 ((rd_T46 l0_1 x18_2).f5).length c397_5) := (blk_cell BK398.out 5).trans rfl
                              have hcz41_6 : wc.cell? ⟨gb398, 6, none⟩ = some (.slice A397_6 ((rd_T46 l0_1 x18_2).f6).length c397_6) := (blk_cell BK398.out 6).trans rfl
                              have hcz41_7 : wc.cell? ⟨gb398, 7, none⟩ = some (.slice A397_7 ((rd_T46 l0_1 x18_2).f7).length c397_7) := (blk_cell BK398.out 7).trans rfl
                              have hfz41_0 := blk_frozen BK398.out 0
                              have hfz41_1 := blk_frozen BK398.out 1
                              have hfz41_2 := blk_frozen BK398.out 2
                              have hfz41_3 := blk_frozen BK398.out 3
                              have hfz41_4 := blk_frozen BK398.out 4
                              have hfz41_5 := blk_frozen BK398.out 5
                              have hfz41_6 := blk_frozen BK398.out 6
                              have hfz41_7 := blk_frozen BK398.out 7
                              go_wp2
                              go_ret
                              exact ⟨by first | rfl | (simp [errW_none, errW_some] <;> rfl) | (simp [*, errW_none, errW_some] <;> rfl), by repeat (first | (with_reducible first | exact HB.out | apply below_alloc | apply pw_below_drewN | apply below_drew1 | refine below_set ?_ GE394.out | refine below_set ?_ GE396.out | refine below_set ?_ GE398.out) | exact HB.out)⟩
                            · rw [if_neg c36] at H
                              have c36b0 : (((rd_T46 l0_1 x10_1).f0) == ((rd_T46 l0_1 x18_2).f0)) = false := beq_eq_false_iff_ne.mpr c36
                              have c36b1 : (((rd_T46 l0_1 x10_1).f0) != ((rd_T46 l0_1 x18_2).f0)) = true := bne_iff_ne.mpr c36
                              replace H := Option.bind_eq_some_iff.mp H
                              obtain ⟨t399, A420, H⟩ := H
                              replace H : (if t399 = true then (if ((rd_T46 l0_1 x10_1).f3) = ((rd_T46 l0_1 x18_2).f3) then ((slices_Equal_int_int.f kj13 ((rd_T46 l0_1 x10_1).f2) ((rd_T46 l0_1 x18_2).f2)).bind fun t400 => (if t400 = true then (impl_agree.l1 kj13 x10_1 l0_1 (l0_1.length : Int) x10_1 l0_1 (l0_1.length : Int) (wrap64 (x18_2 + 1)) l0_0 l0_1 ((rd_T46 l0_1 x10_1).f0) ((rd_T46 l0_1 x10_1).f1) ((rd_T46 l0_1 x10_1).f2) ((rd_T46 l0_1 x10_1).f3) ((rd_T46 l0_1 x10_1).f4) ((rd_T46 l0_1 x10_1).f5) ((rd_T46 l0_1 x10_1).f6) ((rd_T46 l0_1 x10_1).f7)) else (some false))) else (some false)) else (impl_agree.l1 kj13 x10_1 l0_1 (l0_1.length : Int) x10_1 l0_1 (l0_1.length : Int) (wrap64 (x18_2 + 1)) l0_0 l0_1 ((rd_T46 l0_1 x10_1).f0) ((rd_T46 l0_1 x10_1).f1) ((rd_T46 l0_1 x10_1).f2) ((rd_T46 l0_1 x10_1).f3) ((rd_T46 l0_1 x10_1).f4) ((rd_T46 l0_1 x10_1).f5) ((rd_T46 l0_1 x10_1).f6) ((rd_T46 l0_1 x10_1).f7))) = some r := H
                              have A42 := Aside0.mk A420
                              clear A420
                              by_cases c43 : t399 = true
                              · subst c43
                                have H1 : (if ((rd_T46 l0_1 x10_1).f3) = ((rd_T46 l0_1 x18_2).f3) then ((slices_Equal_int_int.f kj13 ((rd_T46 l0_1 x10_1).f2) ((rd_T46 l0_1 x18_2).f2)).bind fun t400 => (if t400 = true then (impl_agree.l1 kj13 x10_1 l0_1 (l0_1.length : Int) x10_1 l0_1 (l0_1.length : Int) (wrap64 (x18_2 + 1)) l0_0 l0_1 ((rd_T46 l0_1 x10_1).f0) ((rd_T46 l0_1 x10_1).f1) ((rd_T46 l0_1 x10_1).f2) ((rd_T46 l0_1 x10_1).f3) ((rd_T46 l0_1 x10_1).f4) ((rd_T46 l0_1 x10_1).f5) ((rd_T46 l0_1 x10_1).f6) ((rd_T46 l0_1 x10_1).f7)) else (some false))) else (some false)) = some r := by rw [if_pos rfl] at H; exact H
                                clear H
                                have H := H1
                                clear H1
                                by_cases c44 : ((rd_T46 l0_1 x10_1).f3) = ((rd_T46 l0_1 x18_2).f3)
                                · rw [if_pos c44] at H
                                  have c44b0 : (((rd_T46 l0_1 x10_1).f3) == ((rd_T46 l0_1 x18_2).f3)) = true := beq_iff_eq.mpr c44
                                  have c44b1 : (((rd_T46 l0_1 x10_1).f3) != ((rd_T46 l0_1 x18_2).f3)) = false := bne_eq_false_iff_eq.mpr c44
                                  clear c44
                                  replace H := Option.bind_eq_some_iff.mp H
                                  obtain ⟨t400, A450, H⟩ := H
                                  replace H : (if t400 = true then (impl_agree.l1 kj13 x10_1 l0_1 (l0_1.length : Int) x10_1 l0_1 (l0_1.length : Int) (wrap64 (x18_2 + 1)) l0_0 l0_1 ((rd_T46 l0_1 x10_1).f0) ((rd_T46 l0_1 x10_1).f1) ((rd_T46 l0_1 x10_1).f2) ((rd_T46 l0_1 x10_1).f3) ((rd_T46 l0_1 x10_1).f4) ((rd_T46 l0_1 x10_1).f5) ((rd_T46 l0_1 x10_1).f6) ((rd_T46 l0_1 x10_1).f7)) else (some false)) = some r := H
                                  have A45 := Aside0.mk A450
                                  clear A450
                                  by_cases c46 : t400 = true
                                  · subst c46
                                    have H1 : (impl_agree.l1 kj13 x10_1 l0_1 (l0_1.length : Int) x10_1 l0_1 (l0_1.length : Int) (wrap64 (x18_2 + 1)) l0_0 l0_1 ((rd_T46 l0_1 x10_1).f0) ((rd_T46 l0_1 x10_1).f1) ((rd_T46 l0_1 x10_1).f2) ((rd_T46 l0_1 x10_1).f3) ((rd_T46 l0_1 x10_1).f4) ((rd_T46 l0_1 x10_1).f5) ((rd_T46 l0_1 x10_1).f6) ((rd_T46 l0_1 x10_1).f7)) = some r := by rw [if_pos rfl] at H; exact H
                                    clear H
                                    have H := H1
                                    clear H1
                                    have H' := Aside0.mk H
                                    clear H
                                    have hnb47 := NB396_394.out
                                    have hnc47 := NB394_396.out
                                    have hnb48 := NB396_398.out
                                    have hnc48 := NB398_396.out
                                    have hcz49_0 : wc.cell? ⟨gb396, 0, none⟩ = some (.int .i64 ((rd_T46 l0_1 x10_1).f0)) := (blk_cell BK396.out 0).trans rfl
                                    have hcz49_1 : wc.cell? ⟨gb396, 1, none⟩ = some (.int .i64 ((rd_T46 l0_1 x10_1).f1)) := (blk_cell BK396.out 1).trans rfl
                                    have hcz49_2 : wc.cell? ⟨gb396, 2, none⟩ = some (.slice A395_2 ((rd_T46 l0_1 x10_1).f2).length c395_2) := (blk_cell BK396.out 2).trans rfl
                                    have hcz49_3 : wc.cell? ⟨gb396, 3, none⟩ = some (.int .i64 ((rd_T46 l0_1 x10_1).f3)) := (blk_cell BK396.out 3).trans rfl
                                    have hcz49_4 : wc.cell? ⟨gb396, 4, none⟩ = some (.int .i64 ((rd_T46 l0_1 x10_1).f4)) := (blk_cell BK396.out 4).trans rfl
                                    have hcz49_5 : wc.cell? ⟨gb396, 5, none⟩ = some (.slice A395_5 ((rd_T46 l0_1 x10_1).f5).length c395_5) := (blk_cell BK396.out 5).trans rfl
                                    have hcz49_6 : wc.cell? ⟨gb396, 6, none⟩ = some (.slice A395_6 ((rd_T46 l0_1 x10_1).f6).length c395_6) := (blk_cell BK396.out 6).trans rfl
                                    have hcz49_7 : wc.cell? ⟨gb396, 7, none⟩ = some (.slice A395_7 ((rd_T46 l0_1 x10_1).f7).length c395_7) := (blk_cell BK396.out 7).trans rfl
                                    have hfz49_0 := blk_frozen BK396.out 0
                                    have hfz49_1 := blk_frozen BK396.out 1
                                    have hfz49_2 := blk_frozen BK396.out 2
                                    have hfz49_3 := blk_frozen BK396.out 3
                                    have hfz49_4 := blk_frozen BK396.out 4
                                    have hfz49_5 := blk_frozen BK396.out 5
                                    have hfz49_6 := blk_frozen BK396.out 6
                                    have hfz49_7 := blk_frozen BK396.out 7
                                    have hnb50 := NB398_394.out
                                    have hnc50 := NB394_398.out
                                    have hcz51_0 : wc.cell? ⟨gb398, 0, none⟩ = some (.int .i64 ((rd_T46 l0_1 x18_2).f0)) := (blk_cell BK398.out 0).trans rfl
                                    have hcz51_1 : wc.cell? ⟨gb398, 1, none⟩ = some (.int .i64 ((rd_T46 l0_1 x18_2).f1)) := (blk_cell BK398.out 1).trans rfl
                                    have hcz51_2 : wc.cell? ⟨gb398, 2, none⟩ = some (.slice A397_2 ((rd_T46 l0_1 x18_2).f2).length c397_2) := (blk_cell BK398.out 2).trans rfl
                                    have hcz51_3 : wc.cell? ⟨gb398, 3, none⟩ = some (.int .i64 ((rd_T46 l0_1 x18_2).f3)) := (blk_cell BK398.out 3).trans rfl
                                    have hcz51_4 : wc.cell? ⟨gb398, 4, none⟩ = some (.int .i64 ((rd_T46 l0_1 x18_2).f4)) := (blk_cell BK398.out 4).trans rfl
                                    have hcz51_5 : wc.cell? ⟨gb398, 5, none⟩ = some (.slice A397_5 ((rd_T46 l0_1 x18_2).f5).length c397_5) := (blk_cell BK398.out 5).trans rfl
                                    have hcz51_6 : wc.cell? ⟨gb398, 6, none⟩ = some (.slice A397_6 ((rd_T46 l0_1 x18_2).f6).length c397_6) := (blk_cell BK398.out 6).trans rfl
                                    have hcz51_7 : wc.cell? ⟨gb398, 7, none⟩ = some (.slice A397_7 ((rd_T46 l0_1 x18_2).f7).length c397_7) := (blk_cell BK398.out 7).trans rfl
                                    have hfz51_0 := blk_frozen BK398.out 0
                                    have hfz51_1 := blk_frozen BK398.out 1
                                    have hfz51_2 := blk_frozen BK398.out 2
                                    have hfz51_3 := blk_frozen BK398.out 3
                                    have hfz51_4 := blk_frozen BK398.out 4
                                    have hfz51_5 := blk_frozen BK398.out 5
                                    have hfz51_6 := blk_frozen BK398.out 6
                                    have hfz51_7 := blk_frozen BK398.out 7
                                    have hcz52_0 : wc.cell? ⟨gb394, 0, none⟩ = some (.slice A0_0 l0_0.length c0_0) := (blk_cell BK394.out 0).trans rfl
                                    have hcz52_1 : wc.cell? ⟨gb394, 1, none⟩ = some (.slice (some ad395) l0_1.length c0_1) := (blk_cell BK394.out 1).trans rfl
                                    have hfz52_0 := blk_frozen BK394.out 0
                                    have hfz52_1 := blk_frozen BK394.out 1
                                    go_wp2_with (first | ((with_reducible refine gate_callee (f := 46) rfl ?_); refine goesL_ (some 54) rfl rfl Try.func46 (by kernel_rfl) rfl #[.slice A0_0 l0_0.length c0_0, .int .i64 ((rd_T46 l0_1 x10_1).f0), .int .i64 ((rd_T46 l0_1 x18_2).f0)] rfl (by (try simp only [List.map_toArray, List.map_cons, List.map_nil]); first | done | rfl | (simp only [List.length_drop, List.length_take]; rfl)) ?_; (with_reducible refine (impl_classUp.calls kj13 _ _ l0_0 ((rd_T46 l0_1 x10_1).f0) ((rd_T46 l0_1 x18_2).f0) true _ ?side1 ?side2 A42.out).mono ?_); (case side1 => repeat (first | exact (Kd.C_below HR0_0.out HB.out) | (with_reducible refine Kd.C_alloc ?_ _) | (with_reducible refine Kd.C_drewN ?_ _) | (with_reducible refine Kd.C_drew ?_))); (case side2 => exact HC0_0.out); rintro e w' ⟨rfl, ⟨nd, rfl⟩⟩; refine ⟨_, rfl, ?_⟩) | (go_at_call 47; (with_reducible refine (slices_Equal_int_int.calls kj13 _ _ ((rd_T46 l0_1 x10_1).f2) _ _ ((rd_T46 l0_1 x18_2).f2) true _ ?side1 ?side2 ?side3 ?side4 A45.out).mono ?_); (case side1 => repeat (first | exact (Kd.C_below HR395_2.out (by repeat (first | (with_reducible first | exact HB.out | apply below_alloc | apply pw_below_drewN | apply below_drew1 | refine below_set ?_ GE394.out | refine below_set ?_ GE396.out | refine below_set ?_ GE398.out) | exact HB.out))) | (with_reducible refine Kd.C_alloc ?_ _) | (with_reducible refine Kd.C_drewN ?_ _) | (with_reducible refine Kd.C_drew ?_))); (case side2 => exact HC395_2.out); (case side3 => repeat (first | exact (Kd.C_below HR397_2.out (by repeat (first | (with_reducible first | exact HB.out | apply below_alloc | apply pw_below_drewN | apply below_drew1 | refine below_set ?_ GE394.out | refine below_set ?_ GE396.out | refine below_set ?_ GE398.out) | exact HB.out))) | (with_reducible refine Kd.C_alloc ?_ _) | (with_reducible refine Kd.C_drewN ?_ _) | (with_reducible refine Kd.C_drew ?_))); (case side4 => exact HC397_2.out); rintro e w' ⟨rfl, ⟨nd, rfl⟩⟩))
                                    go_roundg kj13
                                    case measure => have := HK1.out; have := HK2.out; have := HJ13.out; omega
                                    case rel => exact ⟨(wrap64 (x18_2 + 1)), (by first | rfl | (simp; done) | (simp [*]; done)), H', ⟨by have := HK1.out; have := HK2.out; have := HJ13.out; omega⟩, ⟨by (with_reducible repeat (first | refine blk_drewN ?_ _ | refine blk_drew ?_ | refine blk_alloc ?_ _)); exact BK394.out⟩, ⟨by (with_reducible repeat (first | refine blk_drewN ?_ _ | refine blk_drew ?_ | refine blk_alloc ?_ _)); exact BK396.out⟩, ⟨by repeat (first | (with_reducible first | exact HB.out | apply below_alloc | apply pw_below_drewN | apply below_drew1 | refine below_set ?_ GE394.out | refine below_set ?_ GE396.out | refine below_set ?_ GE398.out) | exact HB.out)⟩⟩
                                  · replace c46 := Bool.eq_false_iff.mpr c46
                                    subst c46
                                    have H1 : (some false) = some r := by rw [if_neg (show ¬ (false = true) by decide)] at H; exact H
                                    clear H
                                    have H := H1
                                    clear H1
                                    obtain rfl := Option.some.inj H
                                    simp only [Option.some.injEq, Prod.mk.injEq] at H
                                    obtain ⟨rfl⟩ := H
                                    have hnb53 := NB396_394.out
                                    have hnc53 := NB394_396.out
                                    have hnb54 := NB396_398.out
                                    have hnc54 := NB398_396.out
                                    have hcz55_0 : wc.cell? ⟨gb396, 0, none⟩ = some (.int .i64 ((rd_T46 l0_1 x10_1).f0)) := (blk_cell BK396.out 0).trans rfl
                                    have hcz55_1 : wc.cell? ⟨gb396, 1, none⟩ = some (.int .i64 ((rd_T46 l0_1 x10_1).f1)) := (blk_cell BK396.out 1).trans rfl
                                    have hcz55_2 : wc.cell? ⟨gb396, 2, none⟩ = some (.slice A395_2 ((rd_T46 l0_1 x10_1).f2).length c395_2) := (blk_cell BK396.out 2).trans rfl
                                    have hcz55_3 : wc.cell? ⟨gb396, 3, none⟩ = some (.int .i64 ((rd_T46 l0_1 x10_1).f3)) := (blk_cell BK396.out 3).trans rfl
                                    have hcz55_4 : wc.cell? ⟨gb396, 4, none⟩ = some (.int .i64 ((rd_T46 l0_1 x10_1).f4)) := (blk_cell BK396.out 4).trans rfl
                                    have hcz55_5 : wc.cell? ⟨gb396, 5, none⟩ = some (.slice A395_5 ((rd_T46 l0_1 x10_1).f5).length c395_5) := (blk_cell BK396.out 5).trans rfl
                                    have hcz55_6 : wc.cell? ⟨gb396, 6, none⟩ = some (.slice A395_6 ((rd_T46 l0_1 x10_1).f6).length c395_6) := (blk_cell BK396.out 6).trans rfl
                                    have hcz55_7 : wc.cell? ⟨gb396, 7, none⟩ = some (.slice A395_7 ((rd_T46 l0_1 x10_1).f7).length c395_7) := (blk_cell BK396.out 7).trans rfl
                                    have hfz55_0 := blk_frozen BK396.out 0
                                    have hfz55_1 := blk_frozen BK396.out 1
                                    have hfz55_2 := blk_frozen BK396.out 2
                                    have hfz55_3 := blk_frozen BK396.out 3
                                    have hfz55_4 := blk_frozen BK396.out 4
                                    have hfz55_5 := blk_frozen BK396.out 5
                                    have hfz55_6 := blk_frozen BK396.out 6
                                    have hfz55_7 := blk_frozen BK396.out 7
                                    have hnb56 := NB398_394.out
                                    have hnc56 := NB394_398.out
                                    have hcz57_0 : wc.cell? ⟨gb398, 0, none⟩ = some (.int .i64 ((rd_T46 l0_1 x18_2).f0)) := (blk_cell BK398.out 0).trans rfl
                                    have hcz57_1 : wc.cell? ⟨gb398, 1, none⟩ = some (.int .i64 ((rd_T46 l0_1 x18_2).f1)) := (blk_cell BK398.out 1).trans rfl
                                    have hcz57_2 : wc.cell? ⟨gb398, 2, none⟩ = some (.slice A397_2 ((rd_T46 l0_1 x18_2).f2).length c397_2) := (blk_cell BK398.out 2).trans rfl
                                    have hcz57_3 : wc.cell? ⟨gb398, 3, none⟩ = some (.int .i64 ((rd_T46 l0_1 x18_2).f3)) := (blk_cell BK398.out 3).trans rfl
                                    have hcz57_4 : wc.cell? ⟨gb398, 4, none⟩ = some (.int .i64 ((rd_T46 l0_1 x18_2).f4)) := (blk_cell BK398.out 4).trans rfl
                                    have hcz57_5 : wc.cell? ⟨gb398, 5, none⟩ = some (.slice A397_5 ((rd_T46 l0_1 x18_2).f5).length c397_5) := (blk_cell BK398.out 5).trans rfl
                                    have hcz57_6 : wc.cell? ⟨gb398, 6, none⟩ = some (.slice A397_6 ((rd_T46 l0_1 x18_2).f6).length c397_6) := (blk_cell BK398.out 6).trans rfl
                                    have hcz57_7 : wc.cell? ⟨gb398, 7, none⟩ = some (.slice A397_7 ((rd_T46 l0_1 x18_2).f7).length c397_7) := (blk_cell BK398.out 7).trans rfl
                                    have hfz57_0 := blk_frozen BK398.out 0
                                    have hfz57_1 := blk_frozen BK398.out 1
                                    have hfz57_2 := blk_frozen BK398.out 2
                                    have hfz57_3 := blk_frozen BK398.out 3
                                    have hfz57_4 := blk_frozen BK398.out 4
                                    have hfz57_5 := blk_frozen BK398.out 5
                                    have hfz57_6 := blk_frozen BK398.out 6
                                    have hfz57_7 := blk_frozen BK398.out 7
                                    have hcz58_0 : wc.cell? ⟨gb394, 0, none⟩ = some (.slice A0_0 l0_0.length c0_0) := (blk_cell BK394.out 0).trans rfl
                                    have hcz58_1 : wc.cell? ⟨gb394, 1, none⟩ = some (.slice (some ad395) l0_1.length c0_1) := (blk_cell BK394.out 1).trans rfl
                                    have hfz58_0 := blk_frozen BK394.out 0
                                    have hfz58_1 := blk_frozen BK394.out 1
                                    go_wp2_with (first | ((with_reducible refine gate_callee (f := 46) rfl ?_); refine goesL_ (some 54) rfl rfl Try.func46 (by kernel_rfl) rfl #[.slice A0_0 l0_0.length c0_0, .int .i64 ((rd_T46 l0_1 x10_1).f0), .int .i64 ((rd_T46 l0_1 x18_2).f0)] rfl (by (try simp only [List.map_toArray, List.map_cons, List.map_nil]); first | done | rfl | (simp only [List.length_drop, List.length_take]; rfl)) ?_; (with_reducible refine (impl_classUp.calls kj13 _ _ l0_0 ((rd_T46 l0_1 x10_1).f0) ((rd_T46 l0_1 x18_2).f0) true _ ?side1 ?side2 A42.out).mono ?_); (case side1 => repeat (first | exact (Kd.C_below HR0_0.out HB.out) | (with_reducible refine Kd.C_alloc ?_ _) | (with_reducible refine Kd.C_drewN ?_ _) | (with_reducible refine Kd.C_drew ?_))); (case side2 => exact HC0_0.out); rintro e w' ⟨rfl, ⟨nd, rfl⟩⟩; refine ⟨_, rfl, ?_⟩) | (go_at_call 47; (with_reducible refine (slices_Equal_int_int.calls kj13 _ _ ((rd_T46 l0_1 x10_1).f2) _ _ ((rd_T46 l0_1 x18_2).f2) false _ ?side1 ?side2 ?side3 ?side4 A45.out).mono ?_); (case side1 => repeat (first | exact (Kd.C_below HR395_2.out (by repeat (first | (with_reducible first | exact HB.out | apply below_alloc | apply pw_below_drewN | apply below_drew1 | refine below_set ?_ GE394.out | refine below_set ?_ GE396.out | refine below_set ?_ GE398.out) | exact HB.out))) | (with_reducible refine Kd.C_alloc ?_ _) | (with_reducible refine Kd.C_drewN ?_ _) | (with_reducible refine Kd.C_drew ?_))); (case side2 => exact HC395_2.out); (case side3 => repeat (first | exact (Kd.C_below HR397_2.out (by repeat (first | (with_reducible first | exact HB.out | apply below_alloc | apply pw_below_drewN | apply below_drew1 | refine below_set ?_ GE394.out | refine below_set ?_ GE396.out | refine below_set ?_ GE398.out) | exact HB.out))) | (with_reducible refine Kd.C_alloc ?_ _) | (with_reducible refine Kd.C_drewN ?_ _) | (with_reducible refine Kd.C_drew ?_))); (case side4 => exact HC397_2.out); rintro e w' ⟨rfl, ⟨nd, rfl⟩⟩))
                                    go_ret
                                    exact ⟨by first | rfl | (simp [errW_none, errW_some] <;> rfl) | (simp [*, errW_none, errW_some] <;> rfl), by repeat (first | (with_reducible first | exact HB.out | apply below_alloc | apply pw_below_drewN | apply below_drew1 | refine below_set ?_ GE394.out | refine below_set ?_ GE396.out | refine below_set ?_ GE398.out) | exact HB.out)⟩
                                · rw [if_neg c44] at H
                                  have c44b0 : (((rd_T46 l0_1 x10_1).f3) == ((rd_T46 l0_1 x18_2).f3)) = false := beq_eq_false_iff_ne.mpr c44
                                  have c44b1 : (((rd_T46 l0_1 x10_1).f3) != ((rd_T46 l0_1 x18_2).f3)) = true := bne_iff_ne.mpr c44
                                  obtain rfl := Option.some.inj H
                                  simp only [Option.some.injEq, Prod.mk.injEq] at H
                                  obtain ⟨rfl⟩ := H
                                  have hnb59 := NB396_394.out
                                  have hnc59 := NB394_396.out
                                  have hnb60 := NB396_398.out
                                  have hnc60 := NB398_396.out
                                  have hcz61_0 : wc.cell? ⟨gb396, 0, none⟩ = some (.int .i64 ((rd_T46 l0_1 x10_1).f0)) := (blk_cell BK396.out 0).trans rfl
                                  have hcz61_1 : wc.cell? ⟨gb396, 1, none⟩ = some (.int .i64 ((rd_T46 l0_1 x10_1).f1)) := (blk_cell BK396.out 1).trans rfl
                                  have hcz61_2 : wc.cell? ⟨gb396, 2, none⟩ = some (.slice A395_2 ((rd_T46 l0_1 x10_1).f2).length c395_2) := (blk_cell BK396.out 2).trans rfl
                                  have hcz61_3 : wc.cell? ⟨gb396, 3, none⟩ = some (.int .i64 ((rd_T46 l0_1 x10_1).f3)) := (blk_cell BK396.out 3).trans rfl
                                  have hcz61_4 : wc.cell? ⟨gb396, 4, none⟩ = some (.int .i64 ((rd_T46 l0_1 x10_1).f4)) := (blk_cell BK396.out 4).trans rfl
                                  have hcz61_5 : wc.cell? ⟨gb396, 5, none⟩ = some (.slice A395_5 ((rd_T46 l0_1 x10_1).f5).length c395_5) := (blk_cell BK396.out 5).trans rfl
                                  have hcz61_6 : wc.cell? ⟨gb396, 6, none⟩ = some (.slice A395_6 ((rd_T46 l0_1 x10_1).f6).length c395_6) := (blk_cell BK396.out 6).trans rfl
                                  have hcz61_7 : wc.cell? ⟨gb396, 7, none⟩ = some (.slice A395_7 ((rd_T46 l0_1 x10_1).f7).length c395_7) := (blk_cell BK396.out 7).trans rfl
                                  have hfz61_0 := blk_frozen BK396.out 0
                                  have hfz61_1 := blk_frozen BK396.out 1
                                  have hfz61_2 := blk_frozen BK396.out 2
                                  have hfz61_3 := blk_frozen BK396.out 3
                                  have hfz61_4 := blk_frozen BK396.out 4
                                  have hfz61_5 := blk_frozen BK396.out 5
                                  have hfz61_6 := blk_frozen BK396.out 6
                                  have hfz61_7 := blk_frozen BK396.out 7
                                  have hnb62 := NB398_394.out
                                  have hnc62 := NB394_398.out
                                  have hcz63_0 : wc.cell? ⟨gb398, 0, none⟩ = some (.int .i64 ((rd_T46 l0_1 x18_2).f0)) := (blk_cell BK398.out 0).trans rfl
                                  have hcz63_1 : wc.cell? ⟨gb398, 1, none⟩ = some (.int .i64 ((rd_T46 l0_1 x18_2).f1)) := (blk_cell BK398.out 1).trans rfl
                                  have hcz63_2 : wc.cell? ⟨gb398, 2, none⟩ = some (.slice A397_2 ((rd_T46 l0_1 x18_2).f2).length c397_2) := (blk_cell BK398.out 2).trans rfl
                                  have hcz63_3 : wc.cell? ⟨gb398, 3, none⟩ = some (.int .i64 ((rd_T46 l0_1 x18_2).f3)) := (blk_cell BK398.out 3).trans rfl
                                  have hcz63_4 : wc.cell? ⟨gb398, 4, none⟩ = some (.int .i64 ((rd_T46 l0_1 x18_2).f4)) := (blk_cell BK398.out 4).trans rfl
                                  have hcz63_5 : wc.cell? ⟨gb398, 5, none⟩ = some (.slice A397_5 ((rd_T46 l0_1 x18_2).f5).length c397_5) := (blk_cell BK398.out 5).trans rfl
                                  have hcz63_6 : wc.cell? ⟨gb398, 6, none⟩ = some (.slice A397_6 ((rd_T46 l0_1 x18_2).f6).length c397_6) := (blk_cell BK398.out 6).trans rfl
                                  have hcz63_7 : wc.cell? ⟨gb398, 7, none⟩ = some (.slice A397_7 ((rd_T46 l0_1 x18_2).f7).length c397_7) := (blk_cell BK398.out 7).trans rfl
                                  have hfz63_0 := blk_frozen BK398.out 0
                                  have hfz63_1 := blk_frozen BK398.out 1
                                  have hfz63_2 := blk_frozen BK398.out 2
                                  have hfz63_3 := blk_frozen BK398.out 3
                                  have hfz63_4 := blk_frozen BK398.out 4
                                  have hfz63_5 := blk_frozen BK398.out 5
                                  have hfz63_6 := blk_frozen BK398.out 6
                                  have hfz63_7 := blk_frozen BK398.out 7
                                  have hcz64_0 : wc.cell? ⟨gb394, 0, none⟩ = some (.slice A0_0 l0_0.length c0_0) := (blk_cell BK394.out 0).trans rfl
                                  have hcz64_1 : wc.cell? ⟨gb394, 1, none⟩ = some (.slice (some ad395) l0_1.length c0_1) := (blk_cell BK394.out 1).trans rfl
                                  have hfz64_0 := blk_frozen BK394.out 0
                                  have hfz64_1 := blk_frozen BK394.out 1
                                  go_wp2_with (first | ((with_reducible refine gate_callee (f := 46) rfl ?_); refine goesL_ (some 54) rfl rfl Try.func46 (by kernel_rfl) rfl #[.slice A0_0 l0_0.length c0_0, .int .i64 ((rd_T46 l0_1 x10_1).f0), .int .i64 ((rd_T46 l0_1 x18_2).f0)] rfl (by (try simp only [List.map_toArray, List.map_cons, List.map_nil]); first | done | rfl | (simp only [List.length_drop, List.length_take]; rfl)) ?_; (with_reducible refine (impl_classUp.calls kj13 _ _ l0_0 ((rd_T46 l0_1 x10_1).f0) ((rd_T46 l0_1 x18_2).f0) true _ ?side1 ?side2 A42.out).mono ?_); (case side1 => repeat (first | exact (Kd.C_below HR0_0.out HB.out) | (with_reducible refine Kd.C_alloc ?_ _) | (with_reducible refine Kd.C_drewN ?_ _) | (with_reducible refine Kd.C_drew ?_))); (case side2 => exact HC0_0.out); rintro e w' ⟨rfl, ⟨nd, rfl⟩⟩; refine ⟨_, rfl, ?_⟩))
                                  go_ret
                                  exact ⟨by first | rfl | (simp [errW_none, errW_some] <;> rfl) | (simp [*, errW_none, errW_some] <;> rfl), by repeat (first | (with_reducible first | exact HB.out | apply below_alloc | apply pw_below_drewN | apply below_drew1 | refine below_set ?_ GE394.out | refine below_set ?_ GE396.out | refine below_set ?_ GE398.out) | exact HB.out)⟩
                              · replace c43 := Bool.eq_false_iff.mpr c43
                                subst c43
                                have H1 : (impl_agree.l1 kj13 x10_1 l0_1 (l0_1.length : Int) x10_1 l0_1 (l0_1.length : Int) (wrap64 (x18_2 + 1)) l0_0 l0_1 ((rd_T46 l0_1 x10_1).f0) ((rd_T46 l0_1 x10_1).f1) ((rd_T46 l0_1 x10_1).f2) ((rd_T46 l0_1 x10_1).f3) ((rd_T46 l0_1 x10_1).f4) ((rd_T46 l0_1 x10_1).f5) ((rd_T46 l0_1 x10_1).f6) ((rd_T46 l0_1 x10_1).f7)) = some r := by rw [if_neg (show ¬ (false = true) by decide)] at H; exact H
                                clear H
                                have H := H1
                                clear H1
                                have H' := Aside0.mk H
                                clear H
                                have hnb65 := NB396_394.out
                                have hnc65 := NB394_396.out
                                have hnb66 := NB396_398.out
                                have hnc66 := NB398_396.out
                                have hcz67_0 : wc.cell? ⟨gb396, 0, none⟩ = some (.int .i64 ((rd_T46 l0_1 x10_1).f0)) := (blk_cell BK396.out 0).trans rfl
                                have hcz67_1 : wc.cell? ⟨gb396, 1, none⟩ = some (.int .i64 ((rd_T46 l0_1 x10_1).f1)) := (blk_cell BK396.out 1).trans rfl
                                have hcz67_2 : wc.cell? ⟨gb396, 2, none⟩ = some (.slice A395_2 ((rd_T46 l0_1 x10_1).f2).length c395_2) := (blk_cell BK396.out 2).trans rfl
                                have hcz67_3 : wc.cell? ⟨gb396, 3, none⟩ = some (.int .i64 ((rd_T46 l0_1 x10_1).f3)) := (blk_cell BK396.out 3).trans rfl
                                have hcz67_4 : wc.cell? ⟨gb396, 4, none⟩ = some (.int .i64 ((rd_T46 l0_1 x10_1).f4)) := (blk_cell BK396.out 4).trans rfl
                                have hcz67_5 : wc.cell? ⟨gb396, 5, none⟩ = some (.slice A395_5 ((rd_T46 l0_1 x10_1).f5).length c395_5) := (blk_cell BK396.out 5).trans rfl
                                have hcz67_6 : wc.cell? ⟨gb396, 6, none⟩ = some (.slice A395_6 ((rd_T46 l0_1 x10_1).f6).length c395_6) := (blk_cell BK396.out 6).trans rfl
                                have hcz67_7 : wc.cell? ⟨gb396, 7, none⟩ = some (.slice A395_7 ((rd_T46 l0_1 x10_1).f7).length c395_7) := (blk_cell BK396.out 7).trans rfl
                                have hfz67_0 := blk_frozen BK396.out 0
                                have hfz67_1 := blk_frozen BK396.out 1
                                have hfz67_2 := blk_frozen BK396.out 2
                                have hfz67_3 := blk_frozen BK396.out 3
                                have hfz67_4 := blk_frozen BK396.out 4
                                have hfz67_5 := blk_frozen BK396.out 5
                                have hfz67_6 := blk_frozen BK396.out 6
                                have hfz67_7 := blk_frozen BK396.out 7
                                have hnb68 := NB398_394.out
                                have hnc68 := NB394_398.out
                                have hcz69_0 : wc.cell? ⟨gb398, 0, none⟩ = some (.int .i64 ((rd_T46 l0_1 x18_2).f0)) := (blk_cell BK398.out 0).trans rfl
                                have hcz69_1 : wc.cell? ⟨gb398, 1, none⟩ = some (.int .i64 ((rd_T46 l0_1 x18_2).f1)) := (blk_cell BK398.out 1).trans rfl
                                have hcz69_2 : wc.cell? ⟨gb398, 2, none⟩ = some (.slice A397_2 ((rd_T46 l0_1 x18_2).f2).length c397_2) := (blk_cell BK398.out 2).trans rfl
                                have hcz69_3 : wc.cell? ⟨gb398, 3, none⟩ = some (.int .i64 ((rd_T46 l0_1 x18_2).f3)) := (blk_cell BK398.out 3).trans rfl
                                have hcz69_4 : wc.cell? ⟨gb398, 4, none⟩ = some (.int .i64 ((rd_T46 l0_1 x18_2).f4)) := (blk_cell BK398.out 4).trans rfl
                                have hcz69_5 : wc.cell? ⟨gb398, 5, none⟩ = some (.slice A397_5 ((rd_T46 l0_1 x18_2).f5).length c397_5) := (blk_cell BK398.out 5).trans rfl
                                have hcz69_6 : wc.cell? ⟨gb398, 6, none⟩ = some (.slice A397_6 ((rd_T46 l0_1 x18_2).f6).length c397_6) := (blk_cell BK398.out 6).trans rfl
                                have hcz69_7 : wc.cell? ⟨gb398, 7, none⟩ = some (.slice A397_7 ((rd_T46 l0_1 x18_2).f7).length c397_7) := (blk_cell BK398.out 7).trans rfl
                                have hfz69_0 := blk_frozen BK398.out 0
                                have hfz69_1 := blk_frozen BK398.out 1
                                have hfz69_2 := blk_frozen BK398.out 2
                                have hfz69_3 := blk_frozen BK398.out 3
                                have hfz69_4 := blk_frozen BK398.out 4
                                have hfz69_5 := blk_frozen BK398.out 5
                                have hfz69_6 := blk_frozen BK398.out 6
                                have hfz69_7 := blk_frozen BK398.out 7
                                have hcz70_0 : wc.cell? ⟨gb394, 0, none⟩ = some (.slice A0_0 l0_0.length c0_0) := (blk_cell BK394.out 0).trans rfl
                                have hcz70_1 : wc.cell? ⟨gb394, 1, none⟩ = some (.slice (some ad395) l0_1.length c0_1) := (blk_cell BK394.out 1).trans rfl
                                have hfz70_0 := blk_frozen BK394.out 0
                                have hfz70_1 := blk_frozen BK394.out 1
                                go_wp2_with (first | ((with_reducible refine gate_callee (f := 46) rfl ?_); refine goesL_ (some 54) rfl rfl Try.func46 (by kernel_rfl) rfl #[.slice A0_0 l0_0.length c0_0, .int .i64 ((rd_T46 l0_1 x10_1).f0), .int .i64 ((rd_T46 l0_1 x18_2).f0)] rfl (by (try simp only [List.map_toArray, List.map_cons, List.map_nil]); first | done | rfl | (simp only [List.length_drop, List.length_take]; rfl)) ?_; (with_reducible refine (impl_classUp.calls kj13 _ _ l0_0 ((rd_T46 l0_1 x10_1).f0) ((rd_T46 l0_1 x18_2).f0) false _ ?side1 ?side2 A42.out).mono ?_); (case side1 => repeat (first | exact (Kd.C_below HR0_0.out HB.out) | (with_reducible refine Kd.C_alloc ?_ _) | (with_reducible refine Kd.C_drewN ?_ _) | (with_reducible refine Kd.C_drew ?_))); (case side2 => exact HC0_0.out); rintro e w' ⟨rfl, ⟨nd, rfl⟩⟩; refine ⟨_, rfl, ?_⟩))
                                go_roundg kj13
                                case measure => have := HK1.out; have := HK2.out; have := HJ13.out; omega
                                case rel => exact ⟨(wrap64 (x18_2 + 1)), (by first | rfl | (simp; done) | (simp [*]; done)), H', ⟨by have := HK1.out; have := HK2.out; have := HJ13.out; omega⟩, ⟨by (with_reducible repeat (first | refine blk_drewN ?_ _ | refine blk_drew ?_ | refine blk_alloc ?_ _)); exact BK394.out⟩, ⟨by (with_reducible repeat (first | refine blk_drewN ?_ _ | refine blk_drew ?_ | refine blk_alloc ?_ _)); exact BK396.out⟩, ⟨by repeat (first | (with_reducible first | exact HB.out | apply below_alloc | apply pw_below_drewN | apply below_drew1 | refine below_set ?_ GE394.out | refine below_set ?_ GE396.out | refine below_set ?_ GE398.out) | exact HB.out)⟩⟩
                    · rw [if_neg c13] at H
                      exact absurd H (by simp)
                  · rw [if_neg c12] at H
                    exact absurd H (by simp)
                · rw [if_neg c11] at H
                  have c11b0 : decide (x18_2 < (l0_1.length : Int)) = false := decide_eq_false c11
                  clear c11
                  have H' := Aside0.mk H
                  clear H
                  go_wp2
                  go_roundg k2
                  case measure => have := HK1.out; have := HK2.out; omega
                  case rel => exact ⟨(wrap64 (x10_1 + 1)), (by first | rfl | (simp; done) | (simp [*]; done)), H', ⟨by have := HK1.out; have := HK2.out; omega⟩, ⟨by (with_reducible repeat (first | refine blk_drewN ?_ _ | refine blk_drew ?_ | refine blk_alloc ?_ _)); exact BK394.out⟩, ⟨by repeat (first | (with_reducible first | exact HB.out | apply below_alloc | apply pw_below_drewN | apply below_drew1 | refine below_set ?_ GE394.out | refine below_set ?_ GE396.out) | exact HB.out)⟩⟩
          · rw [if_neg c6] at H
            exact absurd H (by simp)
        · rw [if_neg c5] at H
          exact absurd H (by simp)
      · rw [if_neg c4] at H
        have c4b0 : decide (x10_1 < (l0_1.length : Int)) = false := decide_eq_false c4
        clear c4
        obtain rfl := Option.some.inj H
        simp only [Option.some.injEq, Prod.mk.injEq] at H
        obtain ⟨rfl⟩ := H
        go_wp2
        go_ret
        exact ⟨by first | rfl | (simp [errW_none, errW_some] <;> rfl) | (simp [*, errW_none, errW_some] <;> rfl), by repeat (first | (with_reducible first | exact HB.out | apply below_alloc | apply pw_below_drewN | apply below_drew1 | refine below_set ?_ GE394.out) | exact HB.out)⟩
end Go.Proofs.Ytedodaifpekahaa.P

end
section

namespace Go.Proofs.Ytedodaifpekahaa.P
open Go Go.RowKit Go.Proofs.YtedodaifpekahaaW.PrintWords Go.Proofs.YtedodaifpekahaaW.PrintLast Go.Proofs.YtedodaifpekahaaW.PrintMore
set_option linter.unusedVariables false
set_option linter.unusedSimpArgs false
theorem wantEnts_snoc (e : Int × Int × Int) : ∀ (l : List (Int × Int × Int)) (i : Nat), wantEnts (l ++ [e]) i = wantEnts l i ++ [wantE e (i + l.length)]
  | [], i => rfl
  | x :: l, i => by
    show wantE x i :: wantEnts (l ++ [e]) (i + 1) = wantE x i :: (wantEnts l (i + 1) ++ [wantE e (i + (l.length + 1))])
    rw [wantEnts_snoc e l (i + 1), show i + 1 + l.length = i + (l.length + 1) by omega]
section
variable {ops : Array Oper} {rest : List Oper} {o : Oper} {a : Act} {Q : Exit → Act → World → Prop} {W : World}
theorem make_event (hgd : o.guard = none) (hop : o.op = .makeMap 50 none) {w : World} (hB : Below w.heap.size w W)
    (h : ∀ g, g = W.heap.size → ∀ W1, W1.heap[g]? = some (wantsAt 0) → Below w.heap.size w W1 → w.heap.size ≤ g → wpList Try.prog ops Q rest (a.put o.dst (.map (some g))) W1) : wpList Try.prog ops Q (o :: rest) a W := by
  refine Kd.event_run hgd ?_ (h _ rfl _ (blk_new W _) (below_alloc hB _) hB.size)
  unfold execOp
  rw [hop]
  simp only [Option.map, Sem.run_bind, run_makeMap, Result.andThen]
  rfl
theorem insert_event {g m : Nat} {e1 e2 e3 : Int} {x k v : Operand} (hgd : o.guard = none) (hop : o.op = .insert 50 x k v) (hN : o.dst = none) (hx : a.eval x = .map (some g)) (hk : a.eval k = .int .i64 e1) (hv : a.eval v = .agg #[.int .i64 e2, .int .i64 e3])
    (hm : W.heap[g]? = some (wantsAt m)) (hl : wantL.take (m + 1) = wantL.take m ++ [(e1, e2, e3)]) (hlen : (wantL.take m).length = m) (hf : wantFind e1 (wantL.take m) = none) {w : World} (hB : Below w.heap.size w W) (hg : w.heap.size ≤ g)
    (h : ∀ W1, W1.heap[g]? = some (wantsAt (m + 1)) → Below w.heap.size w W1 → wpList Try.prog ops Q rest a W1) : wpList Try.prog ops Q (o :: rest) a W := by
  have hm0 := hm
  unfold wantsAt at hm
  obtain ⟨j, hj⟩ := findNow_want e1 (wantL.take m) 0 0
  rw [hf] at hj
  have hkk : MapKept.IsKey (.int .i64) (.int .i64 e1) := by simp [MapKept.IsKey]
  have hu := Try.underlying50
  have hu3 := Try.underlying3
  have e0 : Obj.map ((wantEnts (wantL.take m) 0).toArray.push { key := .int .i64 e1, val := .agg #[.int .i64 e2, .int .i64 e3], born := m }) (m + 1) = wantsAt (m + 1) := by
    unfold wantsAt
    rw [hl, wantEnts_snoc, hlen, Nat.zero_add, List.push_toArray]
    rfl
  have hrun : (Instr.mapUpdate 50 (.map (some g)) (.int .i64 e1) (.agg #[.int .i64 e2, .int .i64 e3])).run Try.prog W = .ok () { W with heap := W.heap.setIfInBounds g (wantsAt (m + 1)) } := by
    rw [← e0]
    simp [Instr.mapUpdate, run_underlying hu, MapKept.run_getObj_map hm, MapKept.run_checkKey hu3 hkk, MapKept.run_findKey hu3 hj, MapKept.run_setObj_map _ hm, Result.andThen]
  have hh := MapKept.heap_set (o' := wantsAt (m + 1)) hm0
  refine wpList_plain hgd fun K hK => ?_
  unfold Oper.wp
  have hex : (execOp a.eval o).run Try.prog W = .ok .skip { W with heap := W.heap.setIfInBounds g (wantsAt (m + 1)) } := by
    unfold execOp
    rw [hop]
    dsimp only
    rw [hx, hk, hv]
    simp only [Sem.run_bind, hrun, Result.andThen]
    rfl
  rw [hex]
  show K (a.put o.dst undef) _
  rw [hN]
  exact hK _ _ (h _ hh.1 (hB.trans ⟨rfl, rfl, rfl, by simp, fun k_ hk_ => hh.2 k_ (by omega)⟩))
end
set_option maxHeartbeats 8000000 in
set_option maxRecDepth 100000 in
theorem impl_wants.calls (w : World) : Calls Try.prog 21 #[] w fun e w' => ∃ g, e = .returned (.map (some g)) ∧ g = w.heap.size ∧ w'.heap[g]? = some wantsO ∧ Below w.heap.size w w' := by
  have HB := Aside0.mk (Below.refl w.heap.size w)
  go_enter Try.func21, Try.ntmps21
  go_wp2_with (first | ((with_reducible refine gate_dst (N := 1) rfl ?_); refine make_event rfl rfl HB.out ?_; intro gM hg W1 hm_ hb_ hs_; clear HB; have HM := Aside0.mk hm_; have HB := Aside0.mk hb_; have HS := Aside0.mk hs_; have HG := Aside0.mk hg; clear hm_ hb_ hs_ hg) | (refine insert_event rfl rfl rfl rfl rfl rfl HM.out rfl rfl rfl HB.out HS.out ?_; intro W1 hm_ hb_; clear HM HB; have HM := Aside0.mk hm_; have HB := Aside0.mk hb_; clear hm_ hb_))
  go_ret
  exact ⟨_, rfl, HG.out, HM.out, HB.out⟩
end Go.Proofs.Ytedodaifpekahaa.P

end
