/- A part of the claim FnExactHeapGraph: texts of this session and texts that its program printed out of the translation, joined. -/
import Derived.Test.YteeakklnlcjgbaaCFnExactHeapGraph21
import Derived.Test.YteeakklnlcjgbaaCFnExactHeapGraph22
import Derived.Test.YteeakklnlcjgbaaCFnExactHeapGraph0
import Derived.Test.YteeakklnlcjgbaaCFnExactHeapGraph1
import Derived.Test.YteeakklnlcjgbaaCFnExactHeapGraph2
import Derived.Test.YteeakklnlcjgbaaCFnExactHeapGraph3
import Derived.Test.YteeakklnlcjgbaaCFnExactHeapGraph4
import Derived.Test.YteeakklnlcjgbaaCFnExactHeapGraph5
import Derived.Test.YteeakklnlcjgbaaCFnExactHeapGraph6
import Derived.Test.YteeakklnlcjgbaaCFnExactHeapGraph7
import Derived.Test.YteeakklnlcjgbaaCFnExactHeapGraph8
import Derived.Test.YteeakklnlcjgbaaCFnExactHeapGraph9
import Derived.Test.YteeakklnlcjgbaaCFnExactHeapGraph10
import Derived.Test.YteeakklnlcjgbaaCFnExactHeapGraph11
import Derived.Test.YteeakklnlcjgbaaCFnExactHeapGraph12
import Derived.Test.YteeakklnlcjgbaaCFnExactHeapGraph13
import Derived.Test.YteeakklnlcjgbaaCFnExactHeapGraph14
import Derived.Test.YteeakklnlcjgbaaCFnExactHeapGraph15
import Derived.Test.YteeakklnlcjgbaaCFnExactHeapGraph16
import Derived.Test.YteeakklnlcjgbaaCFnExactHeapGraph17
import Derived.Test.YteeakklnlcjgbaaCFnExactHeapGraph18
import Derived.Test.YteeakklnlcjgbaaCFnExactHeapGraph19
import Derived.Test.YteeakklnlcjgbaaCFnExactHeapGraph20
section

namespace Go.Proofs.Yteeakklnlcjgbaa.P
open Go.RowKit Go.Proofs.YteeakklnlcjgbaaW.PrintWords Go.Proofs.YteeakklnlcjgbaaW.PrintLast Go.Proofs.YteeakklnlcjgbaaW.PrintMore
attribute [local go_sem] max2_int min2_int max_two min_two max_three min_three max_four min_four
set_option linter.unusedVariables false
set_option linter.unusedSimpArgs false
set_option maxHeartbeats 8000000 in
set_option maxRecDepth 100000 in
theorem impl_HeapOk.calls (k : Nat) (A0 : Option Addr) (c0 : Nat) (l0 : List (S48)) (A1 : Option Addr) (c1 : Nat) (l1 : List (S46)) (r : Bool) (w : World) (hr0 : Kd.C k48 w A0 l0.length l0) (hc0 : l0.length ≤ c0) (hr1 : Kd.C k46 w A1 l1.length l1) (hc1 : l1.length ≤ c1) (h : impl_HeapOk.f k l0 l1 = some r) :
    Calls Try.prog 20 #[.slice A0 l0.length c0, .slice A1 l1.length c1] w fun e w' => e = .returned (.bool r) ∧ Below w.heap.size w w' := by
  have hu46 := Try.underlying46
  have hu48 := Try.underlying48
  have HR0 := Aside0.mk hr0
  have HC0 := Aside0.mk hc0
  clear hr0 hc0
  have HR1 := Aside0.mk hr1
  have HC1 := Aside0.mk hc1
  clear hr1 hc1
  have HB := Aside0.mk (Below.refl w.heap.size w)
  have H : (impl_HeapOk.l0 k l0 l1 (l1.length : Int) 0) = some r := h
  clear h
  have H' := Aside0.mk H
  clear H
  go_enter Try.func20, Try.ntmps20
  go_wp2
  go_loopg [13] k (fun kq v13 w' => ∃ (x13_1 : Int), v13 = .int .i64 x13_1 ∧ Aside0 (impl_HeapOk.l0 kq l0 l1 (l1.length : Int) x13_1 = some r) ∧ Aside0 (kq ≤ k) ∧ Aside0 (Below w.heap.size w w'))
  case atStart => exact ⟨(0), (by first | rfl | (simp; done) | (simp [*]; done)), H', ⟨Nat.le_refl _⟩, ⟨by repeat (first | (with_reducible first | exact HB.out | apply below_alloc | apply pw_below_drewN | apply below_drew1) | exact HB.out)⟩⟩
  case round =>
    clear H'
    try clear c1
    try clear c2
    try clear p2
    obtain ⟨x13_1, rfl, HA, HK1, HB⟩ := hrel
    cases gk with
    | zero => exact absurd HA.out (by simp [impl_HeapOk.l0])
    | succ k1 =>
      have H := HA.out
      clear HA
      simp only [impl_HeapOk.l0] at H
      by_cases c3 : x13_1 < (l1.length : Int)
      · rw [if_pos c3] at H
        have c3b0 : decide (x13_1 < (l1.length : Int)) = true := decide_eq_true c3
        clear c3
        by_cases c4 : 0 ≤ x13_1
        · rw [if_pos c4] at H
          have c4b0 : decide (0 ≤ x13_1) = true := decide_eq_true c4
          clear c4
          by_cases c5 : x13_1 < (l1.length : Int)
          · rw [if_pos c5] at H
            have c5b0 : decide (x13_1 < (l1.length : Int)) = true := decide_eq_true c5
            clear c5
            replace H := Option.bind_eq_some_iff.mp H
            obtain ⟨t174, A60, H⟩ := H
            replace H : (if t174 = true then (impl_HeapOk.l0 k1 l0 l1 (l1.length : Int) (wrap64 (x13_1 + 1))) else (some false)) = some r := H
            have A6 := Aside0.mk A60
            clear A60
            by_cases c7 : t174 = true
            · subst c7
              have H1 : (impl_HeapOk.l0 k1 l0 l1 (l1.length : Int) (wrap64 (x13_1 + 1))) = some r := by rw [if_pos rfl] at H; exact H
              clear H
              have H := H1
              clear H1
              have H' := Aside0.mk H
              clear H
              have p172 : 0 ≤ (x13_1 : Int) := of_decide_eq_true (by first | (with_reducible assumption) | assumption)
              have q172 : x13_1 < (l1.length : Int) := of_decide_eq_true (by first | (with_reducible assumption) | assumption)
              obtain ⟨ad172, e172, hx172_0, hx172_1⟩ := at_T46 HR1.out x13_1 p172 q172
              cases e172
              replace hx172_0 := (HB.out.cell (World.block_lt_of_cell? w _ hx172_0)).trans hx172_0
              replace hx172_1 := (HB.out.cell (World.block_lt_of_cell? w _ hx172_1)).trans hx172_1
              replace p172 := eq_true p172
              replace q172 := eq_true q172
              go_wp2_with (first | ((with_reducible refine gate_dst (N := 6) rfl ?_); refine box_event ?hg (N := 6) ?hd (cs := #[.bool false, .int .i64 0]) (t := 46) ?hr ?_; (case hd => rfl); (case hg => rfl); (case hr => first | (go_simp; done) | (go_simp; rfl)); intro gb173 hg w8 hbox hb; have n0_ := Aside0.mk (below_step (by repeat (first | (with_reducible first | exact HB.out | apply below_alloc | apply pw_below_drewN | apply below_drew1) | exact HB.out)) hb); have n1_ := Aside0.mk (hbox); have n2_ := Aside0.mk ((by rw [hg]; exact (below_size (by repeat (first | (with_reducible first | exact HB.out | apply below_alloc | apply pw_below_drewN | apply below_drew1) | exact HB.out))) : w.heap.size ≤ gb173)); have n3_ := Aside0.mk ((by rw [hg]; exact (below_size (by repeat (first | (with_reducible first | exact HB.out | apply below_alloc | apply pw_below_drewN | apply below_drew1) | exact HB.out))) : w.heap.size ≤ gb173)); clear HB; have HB := n0_; have BK173 := n1_; have GW173 := n2_; have GE173 := n3_; clear n0_ n1_ n2_ n3_; clear hb hbox hg; have hcz9_0 : w8.cell? ⟨gb173, 0, none⟩ = some (.bool false) := (blk_cell BK173.out 0).trans rfl; have hcz9_1 : w8.cell? ⟨gb173, 1, none⟩ = some (.int .i64 0) := (blk_cell BK173.out 1).trans rfl; have hfz9_0 := blk_frozen BK173.out 0; have hfz9_1 := blk_frozen BK173.out 1) | ((with_reducible refine gate_callee (f := 39) rfl ?_); refine goesL_ (some 20) rfl rfl Try.func39 (by kernel_rfl) rfl #[.agg #[.bool ((rd_T46 l1 x13_1).f0), .int .i64 ((rd_T46 l1 x13_1).f1)], .int .i64 (l0.length : Int)] rfl (by (try simp only [List.map_toArray, List.map_cons, List.map_nil]); first | done | rfl | (simp only [List.length_drop, List.length_take]; rfl)) ?_; (with_reducible refine (impl_leadsOk.calls ((rd_T46 l1 x13_1).f0) ((rd_T46 l1 x13_1).f1) (l0.length : Int) true _ A6.out).mono ?_); rintro e w10 ⟨rfl, hb⟩; refine ⟨_, rfl, ?_⟩; have n0_ := Aside0.mk (blk_below (g := gb173) (o := .cells #[.bool ((rd_T46 l1 x13_1).f0), .int .i64 ((rd_T46 l1 x13_1).f1)] 46 (0, 0)) (by (with_reducible repeat (first | refine blk_drewN ?_ _ | refine blk_drew ?_ | refine blk_alloc ?_ _)); refine blk_put (cs := #[.bool ((rd_T46 l1 x13_1).f0), .int .i64 0]) ?_ 1 _ rfl; (with_reducible repeat (first | refine blk_drewN ?_ _ | refine blk_drew ?_ | refine blk_alloc ?_ _)); refine blk_put (cs := #[.bool false, .int .i64 0]) ?_ 0 _ rfl; (with_reducible repeat (first | refine blk_drewN ?_ _ | refine blk_drew ?_ | refine blk_alloc ?_ _)); exact BK173.out) hb); have n1_ := Aside0.mk (below_step (by repeat (first | (with_reducible first | exact HB.out | apply below_alloc | apply pw_below_drewN | apply below_drew1 | refine below_set ?_ GE173.out) | exact HB.out)) hb); clear BK173; clear HB; have BK173 := n0_; have HB := n1_; clear n0_ n1_; (try clear hb); (try clear hb2); (try clear hk); (try clear hi)))
              go_roundg k1
              case measure => have := HK1.out; omega
              case rel => exact ⟨(wrap64 (x13_1 + 1)), (by first | rfl | (simp; done) | (simp [*]; done)), H', ⟨by have := HK1.out; omega⟩, ⟨by repeat (first | (with_reducible first | exact HB.out | apply below_alloc | apply pw_below_drewN | apply below_drew1 | refine below_set ?_ GE173.out) | exact HB.out)⟩⟩
            · replace c7 := Bool.eq_false_iff.mpr c7
              subst c7
              have H1 : (some false) = some r := by rw [if_neg (show ¬ (false = true) by decide)] at H; exact H
              clear H
              have H := H1
              clear H1
              obtain rfl := Option.some.inj H
              simp only [Option.some.injEq, Prod.mk.injEq] at H
              obtain ⟨rfl⟩ := H
              have p172 : 0 ≤ (x13_1 : Int) := of_decide_eq_true (by first | (with_reducible assumption) | assumption)
              have q172 : x13_1 < (l1.length : Int) := of_decide_eq_true (by first | (with_reducible assumption) | assumption)
              obtain ⟨ad172, e172, hx172_0, hx172_1⟩ := at_T46 HR1.out x13_1 p172 q172
              cases e172
              replace hx172_0 := (HB.out.cell (World.block_lt_of_cell? w _ hx172_0)).trans hx172_0
              replace hx172_1 := (HB.out.cell (World.block_lt_of_cell? w _ hx172_1)).trans hx172_1
              replace p172 := eq_true p172
              replace q172 := eq_true q172
              go_wp2_with (first | ((with_reducible refine gate_dst (N := 6) rfl ?_); refine box_event ?hg (N := 6) ?hd (cs := #[.bool false, .int .i64 0]) (t := 46) ?hr ?_; (case hd => rfl); (case hg => rfl); (case hr => first | (go_simp; done) | (go_simp; rfl)); intro gb173 hg w11 hbox hb; have n0_ := Aside0.mk (below_step (by repeat (first | (with_reducible first | exact HB.out | apply below_alloc | apply pw_below_drewN | apply below_drew1) | exact HB.out)) hb); have n1_ := Aside0.mk (hbox); have n2_ := Aside0.mk ((by rw [hg]; exact (below_size (by repeat (first | (with_reducible first | exact HB.out | apply below_alloc | apply pw_below_drewN | apply below_drew1) | exact HB.out))) : w.heap.size ≤ gb173)); have n3_ := Aside0.mk ((by rw [hg]; exact (below_size (by repeat (first | (with_reducible first | exact HB.out | apply below_alloc | apply pw_below_drewN | apply below_drew1) | exact HB.out))) : w.heap.size ≤ gb173)); clear HB; have HB := n0_; have BK173 := n1_; have GW173 := n2_; have GE173 := n3_; clear n0_ n1_ n2_ n3_; clear hb hbox hg; have hcz12_0 : w11.cell? ⟨gb173, 0, none⟩ = some (.bool false) := (blk_cell BK173.out 0).trans rfl; have hcz12_1 : w11.cell? ⟨gb173, 1, none⟩ = some (.int .i64 0) := (blk_cell BK173.out 1).trans rfl; have hfz12_0 := blk_frozen BK173.out 0; have hfz12_1 := blk_frozen BK173.out 1) | ((with_reducible refine gate_callee (f := 39) rfl ?_); refine goesL_ (some 20) rfl rfl Try.func39 (by kernel_rfl) rfl #[.agg #[.bool ((rd_T46 l1 x13_1).f0), .int .i64 ((rd_T46 l1 x13_1).f1)], .int .i64 (l0.length : Int)] rfl (by (try simp only [List.map_toArray, List.map_cons, List.map_nil]); first | done | rfl | (simp only [List.length_drop, List.length_take]; rfl)) ?_; (with_reducible refine (impl_leadsOk.calls ((rd_T46 l1 x13_1).f0) ((rd_T46 l1 x13_1).f1) (l0.length : Int) false _ A6.out).mono ?_); rintro e w13 ⟨rfl, hb⟩; refine ⟨_, rfl, ?_⟩; have n0_ := Aside0.mk (blk_below (g := gb173) (o := .cells #[.bool ((rd_T46 l1 x13_1).f0), .int .i64 ((rd_T46 l1 x13_1).f1)] 46 (0, 0)) (by (with_reducible repeat (first | refine blk_drewN ?_ _ | refine blk_drew ?_ | refine blk_alloc ?_ _)); refine blk_put (cs := #[.bool ((rd_T46 l1 x13_1).f0), .int .i64 0]) ?_ 1 _ rfl; (with_reducible repeat (first | refine blk_drewN ?_ _ | refine blk_drew ?_ | refine blk_alloc ?_ _)); refine blk_put (cs := #[.bool false, .int .i64 0]) ?_ 0 _ rfl; (with_reducible repeat (first | refine blk_drewN ?_ _ | refine blk_drew ?_ | refine blk_alloc ?_ _)); exact BK173.out) hb); have n1_ := Aside0.mk (below_step (by repeat (first | (with_reducible first | exact HB.out | apply below_alloc | apply pw_below_drewN | apply below_drew1 | refine below_set ?_ GE173.out) | exact HB.out)) hb); clear BK173; clear HB; have BK173 := n0_; have HB := n1_; clear n0_ n1_; (try clear hb); (try clear hb2); (try clear hk); (try clear hi)))
              go_ret
              exact ⟨by first | rfl | (simp [errW_none, errW_some] <;> rfl) | (simp [*, errW_none, errW_some] <;> rfl), by repeat (first | (with_reducible first | exact HB.out | apply below_alloc | apply pw_below_drewN | apply below_drew1 | refine below_set ?_ GE173.out) | exact HB.out)⟩
          · rw [if_neg c5] at H
            exact absurd H (by simp)
        · rw [if_neg c4] at H
          exact absurd H (by simp)
      · rw [if_neg c3] at H
        have c3b0 : decide (x13_1 < (l1.length : Int)) = false := decide_eq_false c3
        clear c3
        have H' := Aside0.mk H
        clear H
        go_wp2
        go_loopg [25] k1 (fun kq v25 w' => ∃ (x25_2 : Int), v25 = .int .i64 x25_2 ∧ Aside0 (impl_HeapOk.l1 kq l0 l0 (l0.length : Int) x25_2 = some r) ∧ Aside0 (kq ≤ k1) ∧ Aside0 (Below w.heap.size w w'))
        case atStart => exact ⟨(0), (by first | rfl | (simp; done) | (simp [*]; done)), H', ⟨Nat.le_refl _⟩, ⟨by repeat (first | (with_reducible first | exact HB.out | apply below_alloc | apply pw_below_drewN | apply below_drew1) | exact HB.out)⟩⟩
        case round =>
          clear H'
          try clear c1
          try clear p1
          try clear q1
          try clear hx1
          try clear c2
          try clear p2
          try clear c3
          try clear c3b0
          try clear c4
          try clear c4b0
          try clear c5
          try clear c5b0
          try clear p6
          try clear c7
          try clear hcz12_0
          try clear hcz12_1
          try clear hcz9_0
          try clear hcz9_1
          try clear hfz12_0
          try clear hfz12_1
          try clear hfz9_0
          try clear hfz9_1
          try clear hx172_0
          try clear hx172_1
          try clear p172
          try clear p2
          try clear q172
          obtain ⟨x25_2, rfl, HA, HK2, HB⟩ := hrel
          cases gk with
          | zero => exact absurd HA.out (by simp [impl_HeapOk.l1])
          | succ k2 =>
            have H := HA.out
            clear HA
            simp only [impl_HeapOk.l1] at H
            by_cases c14 : x25_2 < (l0.length : Int)
            · rw [if_pos c14] at H
              have c14b0 : decide (x25_2 < (l0.length : Int)) = true := decide_eq_true c14
              clear c14
              by_cases c15 : 0 ≤ x25_2
              · rw [if_pos c15] at H
                have c15b0 : decide (0 ≤ x25_2) = true := decide_eq_true c15
                clear c15
                by_cases c16 : x25_2 < (l0.length : Int)
                · rw [if_pos c16] at H
                  have c16b0 : decide (x25_2 < (l0.length : Int)) = true := decide_eq_true c16
                  clear c16
                  have H' := Aside0.mk H
                  clear H
                  have p175 : 0 ≤ (x25_2 : Int) := of_decide_eq_true (by first | (with_reducible assumption) | assumption)
                  have q175 : x25_2 < (l0.length : Int) := of_decide_eq_true (by first | (with_reducible assumption) | assumption)
                  obtain ⟨ad175, A175_1, c175_1, e175, hx175_0, hx175_1, hl175_1, hi175_1⟩ := at_T48 HR0.out x25_2 p175 q175
                  cases e175
                  replace hx175_0 := (HB.out.cell (World.block_lt_of_cell? w _ hx175_0)).trans hx175_0
                  replace hx175_1 := (HB.out.cell (World.block_lt_of_cell? w _ hx175_1)).trans hx175_1
                  have HR175_1 := Aside0.mk hi175_1
                  have HC175_1 := Aside0.mk hl175_1
                  clear hi175_1 hl175_1
                  replace p175 := eq_true p175
                  replace q175 := eq_true q175
                  go_wp2_with (first | ((with_reducible refine gate_dst (N := 8) rfl ?_); refine box_event ?hg (N := 8) ?hd (cs := #[.int .i64 0, .slice none 0 0]) (t := 48) ?hr ?_; (case hd => rfl); (case hg => rfl); (case hr => first | (go_simp; done) | (go_simp; rfl)); intro gb176 hg w17 hbox hb; have n0_ := Aside0.mk (below_step (by repeat (first | (with_reducible first | exact HB.out | apply below_alloc | apply pw_below_drewN | apply below_drew1) | exact HB.out)) hb); have n1_ := Aside0.mk (hbox); have n2_ := Aside0.mk ((by rw [hg]; exact (below_size (by repeat (first | (with_reducible first | exact HB.out | apply below_alloc | apply pw_below_drewN | apply below_drew1) | exact HB.out))) : w.heap.size ≤ gb176)); have n3_ := Aside0.mk ((by rw [hg]; exact (below_size (by repeat (first | (with_reducible first | exact HB.out | apply below_alloc | apply pw_below_drewN | apply below_drew1) | exact HB.out))) : w.heap.size ≤ gb176)); clear HB; have HB := n0_; have BK176 := n1_; have GW176 := n2_; have GE176 := n3_; clear n0_ n1_ n2_ n3_; clear hb hbox hg; have hcz18_0 : w17.cell? ⟨gb176, 0, none⟩ = some (.int .i64 0) := (blk_cell BK176.out 0).trans rfl; have hcz18_1 : w17.cell? ⟨gb176, 1, none⟩ = some (.slice none 0 0) := (blk_cell BK176.out 1).trans rfl; have hfz18_0 := blk_frozen BK176.out 0; have hfz18_1 := blk_frozen BK176.out 1))
                  go_loopg [32] k2 (fun kq v32 w' => ∃ (x32_3 : Int), v32 = .int .i64 x32_3 ∧ Aside0 (impl_HeapOk.l2 kq l0 l0 (l0.length : Int) x25_2 ((rd_T48 l0 x25_2).f1) (((rd_T48 l0 x25_2).f1).length : Int) x32_3 = some r) ∧ Aside0 (kq ≤ k2) ∧ Aside0 (w'.heap[gb176]? = some (.cells #[.int .i64 ((rd_T48 l0 x25_2).f0), (.slice A175_1 ((rd_T48 l0 x25_2).f1).length c175_1)] 48 (0, 0))) ∧ Aside0 (Below w.heap.size w w'))
                  case atStart => exact ⟨(0), (by first | rfl | (simp; done) | (simp [*]; done)), H', ⟨Nat.le_refl _⟩, ⟨by (with_reducible repeat (first | refine blk_drewN ?_ _ | refine blk_drew ?_ | refine blk_alloc ?_ _)); refine blk_put (cs := #[.int .i64 ((rd_T48 l0 x25_2).f0), .slice none 0 0]) ?_ 1 _ rfl; (with_reducible repeat (first | refine blk_drewN ?_ _ | refine blk_drew ?_ | refine blk_alloc ?_ _)); refine blk_put (cs := #[.int .i64 0, .slice none 0 0]) ?_ 0 _ rfl; (with_reducible repeat (first | refine blk_drewN ?_ _ | refine blk_drew ?_ | refine blk_alloc ?_ _)); exact BK176.out⟩, ⟨by repeat (first | (with_reducible first | exact HB.out | apply below_alloc | apply pw_below_drewN | apply below_drew1 | refine below_set ?_ GE176.out) | exact HB.out)⟩⟩
                  case round =>
                    clear H'
                    try clear c1
                    try clear p1
                    try clear q1
                    try clear hx1
                    try clear c2
                    try clear p2
                    try clear c3
                    try clear c3b0
                    try clear c4
                    try clear c4b0
                    try clear c5
                    try clear c5b0
                    try clear p6
                    try clear c7
                    try clear c14
                    try clear c14b0
                    try clear c15
                    try clear c15b0
                    try clear c16
                    try clear c16b0
                    try clear c17
                    try clear p17
                    try clear q17
                    try clear hx17
                    try clear hcz12_0
                    try clear hcz12_1
                    try clear hcz18_0
                    try clear hcz18_1
                    try clear hcz9_0
                    try clear hcz9_1
                    try clear hfz12_0
                    try clear hfz12_1
                    try clear hfz18_0
                    try clear hfz18_1
                    try clear hfz9_0
                    try clear hfz9_1
                    try clear hx172_0
                    try clear hx172_1
                    try clear hx175_0
                    try clear hx175_1
                    try clear p1
                    try clear p172
                    try clear p175
                    try clear p2
                    try clear p6
                    try clear q1
                    try clear q172
                    try clear q175
                    obtain ⟨x32_3, rfl, HA, HK3, BK176, HB⟩ := hrel
                    cases gk with
                    | zero => exact absurd HA.out (by simp [impl_HeapOk.l2])
                    | succ k3 =>
                      have H := HA.out
                      clear HA
                      simp only [impl_HeapOk.l2] at H
                      by_cases c19 : x32_3 < (((rd_T48 l0 x25_2).f1).length : Int)
                      · rw [if_pos c19] at H
                        have c19b0 : decide (x32_3 < (((rd_T48 l0 x25_2).f1).length : Int)) = true := decide_eq_true c19
                        clear c19
                        by_cases c20 : 0 ≤ x32_3
                        · rw [if_pos c20] at H
                          have c20b0 : decide (0 ≤ x32_3) = true := decide_eq_true c20
                          clear c20
                          by_cases c21 : x32_3 < (((rd_T48 l0 x25_2).f1).length : Int)
                          · rw [if_pos c21] at H
                            have c21b0 : decide (x32_3 < (((rd_T48 l0 x25_2).f1).length : Int)) = true := decide_eq_true c21
                            clear c21
                            replace H := Option.bind_eq_some_iff.mp H
                            obtain ⟨t179, A220, H⟩ := H
                            replace H : (if t179 = true then (impl_HeapOk.l2 k3 l0 l0 (l0.length : Int) x25_2 ((rd_T48 l0 x25_2).f1) (((rd_T48 l0 x25_2).f1).length : Int) (wrap64 (x32_3 + 1))) else (some false)) = some r := H
                            have A22 := Aside0.mk A220
                            clear A220
                            by_cases c23 : t179 = true
                            · subst c23
                              have H1 : (impl_HeapOk.l2 k3 l0 l0 (l0.length : Int) x25_2 ((rd_T48 l0 x25_2).f1) (((rd_T48 l0 x25_2).f1).length : Int) (wrap64 (x32_3 + 1))) = some r := by rw [if_pos rfl] at H; exact H
                              clear H
                              have H := H1
                              clear H1
                              have H' := Aside0.mk H
                              clear H
                              have p177 : 0 ≤ (x32_3 : Int) := of_decide_eq_true (by first | (with_reducible assumption) | assumption)
                              have q177 : x32_3 < (((rd_T48 l0 x25_2).f1).length : Int) := of_decide_eq_true (by first | (with_reducible assumption) | assumption)
                              obtain ⟨ad177, e177, hx177_0, hx177_1⟩ := at_T46 HR175_1.out x32_3 p177 q177
                              cases e177
                              replace hx177_0 := (HB.out.cell (World.block_lt_of_cell? w _ hx177_0)).trans hx177_0
                              replace hx177_1 := (HB.out.cell (World.block_lt_of_cell? w _ hx177_1)).trans hx177_1
                              replace p177 := eq_true p177
                              replace q177 := eq_true q177
                              go_wp2_with (first | ((with_reducible refine gate_dst (N := 10) rfl ?_); refine box_event ?hg (N := 10) ?hd (cs := #[.bool false, .int .i64 0]) (t := 46) ?hr ?_; (case hd => rfl); (case hg => rfl); (case hr => first | (go_simp; done) | (go_simp; rfl)); intro gb178 hg w24 hbox hb; have n0_ := Aside0.mk (blk_below (g := gb176) (o := .cells #[.int .i64 ((rd_T48 l0 x25_2).f0), .slice (some ad177) ((rd_T48 l0 x25_2).f1).length c175_1] 48 (0, 0)) (by (with_reducible repeat (first | refine blk_drewN ?_ _ | refine blk_drew ?_ | refine blk_alloc ?_ _)); exact BK176.out) hb); have n1_ := Aside0.mk (below_step (by repeat (first | (with_reducible first | exact HB.out | apply below_alloc | apply pw_below_drewN | apply below_drew1 | refine below_set ?_ GE176.out) | exact HB.out)) hb); have n2_ := Aside0.mk (hbox); have n3_ := Aside0.mk ((by rw [hg]; exact (below_size (by repeat (first | (with_reducible first | exact HB.out | apply below_alloc | apply pw_below_drewN | apply below_drew1 | refine below_set ?_ GE176.out) | exact HB.out))) : w.heap.size ≤ gb178)); have n4_ := Aside0.mk ((by rw [hg]; exact (below_size (by repeat (first | (with_reducible first | exact HB.out | apply below_alloc | apply pw_below_drewN | apply below_drew1 | refine below_set ?_ GE176.out) | exact HB.out))) : w.heap.size ≤ gb178)); have n5_ := Aside0.mk ((by rw [hg]; exact Nat.ne_of_lt (blk_lt (g := gb176) (o := .cells #[.int .i64 ((rd_T48 l0 x25_2).f0), .slice (some ad177) ((rd_T48 l0 x25_2).f1).length c175_1] 48 (0, 0)) (by (with_reducible repeat (first | refine blk_drewN ?_ _ | refine blk_drew ?_ | refine blk_alloc ?_ _)); exact BK176.out)) : gb176 ≠ gb178)); have n6_ := Aside0.mk ((by rw [hg]; exact Nat.ne_of_gt (blk_lt (g := gb176) (o := .cells #[.int .i64 ((rd_T48 l0 x25_2).f0), .slice (some ad177) ((rd_T48 l0 x25_2).f1).length c175_1] 48 (0, 0)) (by (with_reducible repeat (first | refine blk_drewN ?_ _ | refine blk_drew ?_ | refine blk_alloc ?_ _)); exact BK176.out)) : gb178 ≠ gb176)); clear BK176; clear HB; have BK176 := n0_; have HB := n1_; have BK178 := n2_; have GW178 := n3_; have GE178 := n4_; have NB176_178 := n5_; have NB178_176 := n6_; clear n0_ n1_ n2_ n3_ n4_ n5_ n6_; clear hb hbox hg; have hnb25 := NB178_176.out; have hnc25 := NB176_178.out; have hcz26_0 : w24.cell? ⟨gb178, 0, none⟩ = some (.bool false) := (blk_cell BK178.out 0).trans rfl; have hcz26_1 : w24.cell? ⟨gb178, 1, none⟩ = some (.int .i64 0) := (blk_cell BK178.out 1).trans rfl; have hfz26_0 := blk_frozen BK178.out 0; have hfz26_1 := blk_frozen BK178.out 1) | ((with_reducible refine gate_callee (f := 39) rfl ?_); refine goesL_ (some 39) rfl rfl Try.func39 (by kernel_rfl) rfl #[.agg #[.bool ((rd_T46 ((rd_T48 l0 x25_2).f1) x32_3).f0), .int .i64 ((rd_T46 ((rd_T48 l0 x25_2).f1) x32_3).f1)], .int .i64 (l0.length : Int)] rfl (by (try simp only [List.map_toArray, List.map_cons, List.map_nil]); first | done | rfl | (simp only [List.length_drop, List.length_take]; rfl)) ?_; (with_reducible refine (impl_leadsOk.calls ((rd_T46 ((rd_T48 l0 x25_2).f1) x32_3).f0) ((rd_T46 ((rd_T48 l0 x25_2).f1) x32_3).f1) (l0.length : Int) true _ A22.out).mono ?_); rintro e w27 ⟨rfl, hb⟩; refine ⟨_, rfl, ?_⟩; have n0_ := Aside0.mk (blk_below (g := gb176) (o := .cells #[.int .i64 ((rd_T48 l0 x25_2).f0), .slice (some ad177) ((rd_T48 l0 x25_2).f1).length c175_1] 48 (0, 0)) (by (with_reducible repeat (first | refine blk_drewN ?_ _ | refine blk_drew ?_ | refine blk_alloc ?_ _)); refine blk_far ?_ NB176_178.out _; (with_reducible repeat (first | refine blk_drewN ?_ _ | refine blk_drew ?_ | refine blk_alloc ?_ _)); refine blk_far ?_ NB176_178.out _; (with_reducible repeat (first | refine blk_drewN ?_ _ | refine blk_drew ?_ | refine blk_alloc ?_ _)); exact BK176.out) hb); have n1_ := Aside0.mk (blk_below (g := gb178) (o := .cells #[.bool ((rd_T46 ((rd_T48 l0 x25_2).f1) x32_3).f0), .int .i64 ((rd_T46 ((rd_T48 l0 x25_2).f1) x32_3).f1)] 46 (0, 0)) (by (with_reducible repeat (first | refine blk_drewN ?_ _ | refine blk_drew ?_ | refine blk_alloc ?_ _)); refine blk_put (cs := #[.bool ((rd_T46 ((rd_T48 l0 x25_2).f1) x32_3).f0), .int .i64 0]) ?_ 1 _ rfl; (with_reducible repeat (first | refine blk_drewN ?_ _ | refine blk_drew ?_ | refine blk_alloc ?_ _)); refine blk_put (cs := #[.bool false, .int .i64 0]) ?_ 0 _ rfl; (with_reducible repeat (first | refine blk_drewN ?_ _ | refine blk_drew ?_ | refine blk_alloc ?_ _)); exact BK178.out) hb); have n2_ := Aside0.mk (below_step (by repeat (first | (with_reducible first | exact HB.out | apply below_alloc | apply pw_below_drewN | apply below_drew1 | refine below_set ?_ GE176.out | refine below_set ?_ GE178.out) | exact HB.out)) hb); clear BK176; clear BK178; clear HB; have BK176 := n0_; have BK178 := n1_; have HB := n2_; clear n0_ n1_ n2_; (try clear hb); (try clear hb2); (try clear hk); (try clear hi)))
                              go_roundg k3
                              case measure => have := HK1.out; have := HK2.out; have := HK3.out; omega
                              case rel => exact ⟨(wrap64 (x32_3 + 1)), (by first | rfl | (simp; done) | (simp [*]; done)), H', ⟨by have := HK1.out; have := HK2.out; have := HK3.out; omega⟩, ⟨by (with_reducible repeat (first | refine blk_drewN ?_ _ | refine blk_drew ?_ | refine blk_alloc ?_ _)); exact BK176.out⟩, ⟨by repeat (first | (with_reducible first | exact HB.out | apply below_alloc | apply pw_below_drewN | apply below_drew1 | refine below_set ?_ GE176.out | refine below_set ?_ GE178.out) | exact HB.out)⟩⟩
                            · replace c23 := Bool.eq_false_iff.mpr c23
                              subst c23
                              have H1 : (some false) = some r := by rw [if_neg (show ¬ (false = true) by decide)] at H; exact H
                              clear H
                              have H := H1
                              clear H1
                              obtain rfl := Option.some.inj H
                              simp only [Option.some.injEq, Prod.mk.injEq] at H
                              obtain ⟨rfl⟩ := H
                              have p177 : 0 ≤ (x32_3 : Int) := of_decide_eq_true (by first | (with_reducible assumption) | assumption)
                              have q177 : x32_3 < (((rd_T48 l0 x25_2).f1).length : Int) := of_decide_eq_true (by first | (with_reducible assumption) | assumption)
                              obtain ⟨ad177, e177, hx177_0, hx177_1⟩ := at_T46 HR175_1.out x32_3 p177 q177
                              cases e177
                              replace hx177_0 := (HB.out.cell (World.block_lt_of_cell? w _ hx177_0)).trans hx177_0
                              replace hx177_1 := (HB.out.cell (World.block_lt_of_cell? w _ hx177_1)).trans hx177_1
                              replace p177 := eq_true p177
                              replace q177 := eq_true q177
                              go_wp2_with (first | ((with_reducible refine gate_dst (N := 10) rfl ?_); refine box_event ?hg (N := 10) ?hd (cs := #[.bool false, .int .i64 0]) (t := 46) ?hr ?_; (case hd => rfl); (case hg => rfl); (case hr => first | (go_simp; done) | (go_simp; rfl)); intro gb178 hg w28 hbox hb; have n0_ := Aside0.mk (blk_below (g := gb176) (o := .cells #[.int .i64 ((rd_T48 l0 x25_2).f0), .slice (some ad177) ((rd_T48 l0 x25_2).f1).length c175_1] 48 (0, 0)) (by (with_reducible repeat (first | refine blk_drewN ?_ _ | refine blk_drew ?_ | refine blk_alloc ?_ _)); exact BK176.out) hb); have n1_ := Aside0.mk (below_step (by repeat (first | (with_reducible first | exact HB.out | apply below_alloc | apply pw_below_drewN | apply below_drew1 | refine below_set ?_ GE176.out) | exact HB.out)) hb); have n2_ := Aside0.mk (hbox); have n3_ := Aside0.mk ((by rw [hg]; exact (below_size (by repeat (first | (with_reducible first | exact HB.out | apply below_alloc | apply pw_below_drewN | apply below_drew1 | refine below_set ?_ GE176.out) | exact HB.out))) : w.heap.size ≤ gb178)); have n4_ := Aside0.mk ((by rw [hg]; exact (below_size (by repeat (first | (with_reducible first | exact HB.out | apply below_alloc | apply pw_below_drewN | apply below_drew1 | refine below_set ?_ GE176.out) | exact HB.out))) : w.heap.size ≤ gb178)); have n5_ := Aside0.mk ((by rw [hg]; exact Nat.ne_of_lt (blk_lt (g := gb176) (o := .cells #[.int .i64 ((rd_T48 l0 x25_2).f0), .slice (some ad177) ((rd_T48 l0 x25_2).f1).length c175_1] 48 (0, 0)) (by (with_reducible repeat (first | refine blk_drewN ?_ _ | refine blk_drew ?_ | refine blk_alloc ?_ _)); exact BK176.out)) : gb176 ≠ gb178)); have n6_ := Aside0.mk ((by rw [hg]; exact Nat.ne_of_gt (blk_lt (g := gb176) (o := .cells #[.int .i64 ((rd_T48 l0 x25_2).f0), .slice (some ad177) ((rd_T48 l0 x25_2).f1).length c175_1] 48 (0, 0)) (by (with_reducible repeat (first | refine blk_drewN ?_ _ | refine blk_drew ?_ | refine blk_alloc ?_ _)); exact BK176.out)) : gb178 ≠ gb176)); clear BK176; clear HB; have BK176 := n0_; have HB := n1_; have BK178 := n2_; have GW178 := n3_; have GE178 := n4_; have NB176_178 := n5_; have NB178_176 := n6_; clear n0_ n1_ n2_ n3_ n4_ n5_ n6_; clear hb hbox hg; have hnb29 := NB178_176.out; have hnc29 := NB176_178.out; have hcz30_0 : w28.cell? ⟨gb178, 0, none⟩ = some (.bool false) := (blk_cell BK178.out 0).trans rfl; have hcz30_1 : w28.cell? ⟨gb178, 1, none⟩ = some (.int .i64 0) := (blk_cell BK178.out 1).trans rfl; have hfz30_0 := blk_frozen BK178.out 0; have hfz30_1 := blk_frozen BK178.out 1) | ((with_reducible refine gate_callee (f := 39) rfl ?_); refine goesL_ (some 39) rfl rfl Try.func39 (by kernel_rfl) rfl #[.agg #[.bool ((rd_T46 ((rd_T48 l0 x25_2).f1) x32_3).f0), .int .i64 ((rd_T46 ((rd_T48 l0 x25_2).f1) x32_3).f1)], .int .i64 (l0.length : Int)] rfl (by (try simp only [List.map_toArray, List.map_cons, List.map_nil]); first | done | rfl | (simp only [List.length_drop, List.length_take]; rfl)) ?_; (with_reducible refine (impl_leadsOk.calls ((rd_T46 ((rd_T48 l0 x25_2).f1) x32_3).f0) ((rd_T46 ((rd_T48 l0 x25_2).f1) x32_3).f1) (l0.length : Int) false _ A22.out).mono ?_); rintro e w31 ⟨rfl, hb⟩; refine ⟨_, rfl, ?_⟩; have n0_ := Aside0.mk (blk_below (g := gb176) (o := .cells #[.int .i64 ((rd_T48 l0 x25_2).f0), .slice (some ad177) ((rd_T48 l0 x25_2).f1).length c175_1] 48 (0, 0)) (by (with_reducible repeat (first | refine blk_drewN ?_ _ | refine blk_drew ?_ | refine blk_alloc ?_ _)); refine blk_far ?_ NB176_178.out _; (with_reducible repeat (first | refine blk_drewN ?_ _ | refine blk_drew ?_ | refine blk_alloc ?_ _)); refine blk_far ?_ NB176_178.out _; (with_reducible repeat (first | refine blk_drewN ?_ _ | refine blk_drew ?_ | refine blk_alloc ?_ _)); exact BK176.out) hb); have n1_ := Aside0.mk (blk_below (g := gb178) (o := .cells #[.bool ((rd_T46 ((rd_T48 l0 x25_2).f1) x32_3).f0), .int .i64 ((rd_T46 ((rd_T48 l0 x25_2).f1) x32_3).f1)] 46 (0, 0)) (by (with_reducible repeat (first | refine blk_drewN ?_ _ | refine blk_drew ?_ | refine blk_alloc ?_ _)); refine blk_put (cs := #[.bool ((rd_T46 ((rd_T48 l0 x25_2).f1) x32_3).f0), .int .i64 0]) ?_ 1 _ rfl; (with_reducible repeat (first | refine blk_drewN ?_ _ | refine blk_drew ?_ | refine blk_alloc ?_ _)); refine blk_put (cs := #[.bool false, .int .i64 0]) ?_ 0 _ rfl; (with_reducible repeat (first | refine blk_drewN ?_ _ | refine blk_drew ?_ | refine blk_alloc ?_ _)); exact BK178.out) hb); have n2_ := Aside0.mk (below_step (by repeat (first | (with_reducible first | exact HB.out | apply below_alloc | apply pw_below_drewN | apply below_drew1 | refine below_set ?_ GE176.out | refine below_set ?_ GE178.out) | exact HB.out)) hb); clear BK176; clear BK178; clear HB; have BK176 := n0_; have BK178 := n1_; have HB := n2_; clear n0_ n1_ n2_; (try clear hb); (try clear hb2); (try clear hk); (try clear hi)))
                              go_ret
                              exact ⟨by first | rfl | (simp [errW_none, errW_some] <;> rfl) | (simp [*, errW_none, errW_some] <;> rfl), by repeat (first | (with_reducible first | exact HB.out | apply below_alloc | apply pw_below_drewN | apply below_drew1 | refine below_set ?_ GE176.out | refine below_set ?_ GE178.out) | exact HB.out)⟩
                          · rw [if_neg c21] at H
                            exact absurd H (by simp)
                        · rw [if_neg c20] at H
                          exact absurd H (by simp)
                      · rw [if_neg c19] at H
                        have c19b0 : decide (x32_3 < (((rd_T48 l0 x25_2).f1).length : Int)) = false := decide_eq_false c19
                        clear c19
                        have H' := Aside0.mk H
                        clear H
                        go_wp2
                        go_roundg k3
                        case measure => have := HK1.out; have := HK2.out; have := HK3.out; omega
                        case rel => exact ⟨(wrap64 (x25_2 + 1)), (by first | rfl | (simp; done) | (simp [*]; done)), H', ⟨by have := HK1.out; have := HK2.out; have := HK3.out; omega⟩, ⟨by repeat (first | (with_reducible first | exact HB.out | apply below_alloc | apply pw_below_drewN | apply below_drew1 | refine below_set ?_ GE176.out) | exact HB.out)⟩⟩
                · rw [if_neg c16] at H
                  exact absurd H (by simp)
              · rw [if_neg c15] at H
                exact absurd H (by simp)
            · rw [if_neg c14] at H
              have c14b0 : decide (x25_2 < (l0.length : Int)) = false := decide_eq_false c14
              clear c14
              obtain rfl := Option.some.inj H
              simp only [Option.some.injEq, Prod.mk.injEq] at H
              obtain ⟨rfl⟩ := H
              go_wp2
              go_ret
              exact ⟨by first | rfl | (simp [errW_none, errW_some] <;> rfl) | (simp [*, errW_none, errW_some] <;> rfl), by repeat (first | (with_reducible first | exact HB.out | apply below_alloc | apply pw_below_drewN | apply below_drew1) | exact HB.out)⟩
end Go.Proofs.Yteeakklnlcjgbaa.P

end
section

namespace Go.Proofs.Yteeakklnlcjgbaa.P
open Go.RowKit Go.Proofs.YteeakklnlcjgbaaW.PrintWords Go.Proofs.YteeakklnlcjgbaaW.PrintLast Go.Proofs.YteeakklnlcjgbaaW.PrintMore
attribute [local go_sem] max2_int min2_int max_two min_two max_three min_three max_four min_four
set_option linter.unusedVariables false
set_option linter.unusedSimpArgs false
set_option maxHeartbeats 8000000 in
set_option maxRecDepth 100000 in
theorem impl_moveVals.calls (k : Nat) (A0 : Option Addr) (c0 : Nat) (l0 : List (S46)) (A1 : Option Addr) (c1 : Nat) (l1 : List Int) (r : List (S46)) (w : World) (hr0 : Kd.C k46 w A0 l0.length l0) (hc0 : l0.length ≤ c0) (hr1 : Kd.C (Kd.int .i64) w A1 l1.length l1) (hc1 : l1.length ≤ c1) (h : impl_moveVals.f k l0 l1 = some r) :
    Calls Try.prog 44 #[.slice A0 l0.length c0, .slice A1 l1.length c1] w fun e w' => ∃ v0_ : Value, e = .returned (v0_) ∧ Kd.R k46 46 w' w.heap.size (fun _ => True) v0_ r ∧ Below w.heap.size w w' := by
  have hu46 := Try.underlying46
  have HR0 := Aside0.mk hr0
  have HC0 := Aside0.mk hc0
  clear hr0 hc0
  have HR1 := Aside0.mk hr1
  have HC1 := Aside0.mk hc1
  clear hr1 hc1
  have HB := Aside0.mk (Below.refl w.heap.size w)
  have H : (impl_moveVals.l0 k l1 ([] : List (S46)) l0 (l0.length : Int) 0) = some r := h
  clear h
  have H' := Aside0.mk H
  clear H
  go_enter Try.func44, Try.ntmps44
  go_wp2
  go_loopg [5, 10] k (fun kq v5 v10 w' => ∃ (x5_1 : List (S46)) (x10_1 : Int), v10 = .int .i64 x10_1 ∧ Aside0 (impl_moveVals.l0 kq l1 x5_1 l0 (l0.length : Int) x10_1 = some r) ∧ Aside0 (kq ≤ k) ∧ Aside0 (Kd.R k46 46 w' w.heap.size (fun _ => True) v5 x5_1) ∧ Aside0 (Below w.heap.size w w'))
  case atStart => exact ⟨(([] : List (S46))), (0), (by first | rfl | (simp; done) | (simp [*]; done)), H', ⟨Nat.le_refl _⟩, ⟨by first | exact Kd.R_nil _ _ _ _ _ | exact Kd.N_nil _ _ _ _ _ | exact Kd.V_nil _ _ _ _ _ | exact Kd.Q_nil _ _ _ _ _ | exact Kd.S_nil _ _ _ _ _⟩, ⟨by repeat (first | (with_reducible first | exact HB.out | apply below_alloc | apply pw_below_drewN | apply below_drew1) | exact HB.out)⟩⟩
  case round =>
    clear H'
    try clear c1
    try clear p2
    obtain ⟨x5_1, x10_1, rfl, HA, HK1, HO_5, HB⟩ := hrel
    cases gk with
    | zero => exact absurd HA.out (by simp [impl_moveVals.l0])
    | succ k1 =>
      have H := HA.out
      clear HA
      simp only [impl_moveVals.l0] at H
      by_cases c3 : x10_1 < (l0.length : Int)
      · rw [if_pos c3] at H
        have c3b0 : decide (x10_1 < (l0.length : Int)) = true := decide_eq_true c3
        clear c3
        by_cases c4 : 0 ≤ x10_1
        · rw [if_pos c4] at H
          have c4b0 : decide (0 ≤ x10_1) = true := decide_eq_true c4
          clear c4
          by_cases c5 : x10_1 < (l0.length : Int)
          · rw [if_pos c5] at H
            have c5b0 : decide (x10_1 < (l0.length : Int)) = true := decide_eq_true c5
            clear c5
            obtain ⟨bq6, hbq6⟩ : ∃ b_ : Bool, b_ = ((rd_T46 l0 x10_1).f0) := ⟨_, rfl⟩
            replace H : (if bq6 = true then (if 0 ≤ ((rd_T46 l0 x10_1).f1) then (if ((rd_T46 l0 x10_1).f1) < (l1.length : Int) then (if x5_1.length < 8796093022208 then (impl_moveVals.l0 k1 l1 (x5_1 ++ [(⟨bq6, rd l1 ((rd_T46 l0 x10_1).f1)⟩ : S46)]) l0 (l0.length : Int) (wrap64 (x10_1 + 1))) else (none)) else (none)) else (none)) else (if x5_1.length < 8796093022208 then (impl_moveVals.l0 k1 l1 (x5_1 ++ [(⟨bq6, (rd_T46 l0 x10_1).f1⟩ : S46)]) l0 (l0.length : Int) (wrap64 (x10_1 + 1))) else (none))) = some r := by rw [← hbq6] at H; exact H
            have Nbq6 := Aside0.mk hbq6
            clear hbq6
            by_cases c7 : bq6 = true
            · subst c7
              have H1 : (if 0 ≤ ((rd_T46 l0 x10_1).f1) then (if ((rd_T46 l0 x10_1).f1) < (l1.length : Int) then (if x5_1.length < 8796093022208 then (impl_moveVals.l0 k1 l1 (x5_1 ++ [(⟨true, rd l1 ((rd_T46 l0 x10_1).f1)⟩ : S46)]) l0 (l0.length : Int) (wrap64 (x10_1 + 1))) else (none)) else (none)) else (none)) = some r := by rw [if_pos rfl] at H; exact H
              clear H
              have H := H1
              clear H1
              by_cases c8 : 0 ≤ ((rd_T46 l0 x10_1).f1)
              · rw [if_pos c8] at H
                have c8b0 : decide (0 ≤ ((rd_T46 l0 x10_1).f1)) = true := decide_eq_true c8
                clear c8
                by_cases c9 : ((rd_T46 l0 x10_1).f1) < (l1.length : Int)
                · rw [if_pos c9] at H
                  have c9b0 : decide (((rd_T46 l0 x10_1).f1) < (l1.length : Int)) = true := decide_eq_true c9
                  clear c9
                  by_cases c10 : x5_1.length < 8796093022208
                  · rw [if_pos c10] at H
                    have LMc10 := Aside0.mk c10
                    clear c10
                    obtain ⟨y248, hy248⟩ : ∃ y_ : List (S46), y_ = (x5_1 ++ [(⟨true, rd l1 ((rd_T46 l0 x10_1).f1)⟩ : S46)]) := ⟨_, rfl⟩
                    replace H : (impl_moveVals.l0 k1 l1 y248 l0 (l0.length : Int) (wrap64 (x10_1 + 1))) = some r := by first | (rw [hy248]; with_reducible exact H) | (have H2_ := (Option.bind_some _ _).symm.trans H; rw [hy248]; with_reducible exact H2_) | (have H2_ := (Option.bind_some _ _).symm.trans H; with_reducible exact H2_) | with_reducible exact H | (rw [hy248]; exact H) | exact H
                    have Ny248 := Aside0.mk hy248
                    clear hy248
                    have H' := Aside0.mk H
                    clear H
                    have p245 : 0 ≤ (x10_1 : Int) := of_decide_eq_true (by first | (with_reducible assumption) | assumption)
                    have q245 : x10_1 < (l0.length : Int) := of_decide_eq_true (by first | (with_reducible assumption) | assumption)
                    obtain ⟨ad245, e245, hx245_0, hx245_1⟩ := at_T46 HR0.out x10_1 p245 q245
                    (try rw [← Nbq6.out] at hx245_0)
                    cases e245
                    replace hx245_0 := (HB.out.cell (World.block_lt_of_cell? w _ hx245_0)).trans hx245_0
                    replace hx245_1 := (HB.out.cell (World.block_lt_of_cell? w _ hx245_1)).trans hx245_1
                    replace p245 := eq_true p245
                    replace q245 := eq_true q245
                    go_wp2_with (first | ((with_reducible refine gate_dst (N := 7) rfl ?_); refine box_event ?hg (N := 7) ?hd (cs := #[.bool false, .int .i64 0]) (t := 46) ?hr ?_; (case hd => rfl); (case hg => rfl); (case hr => first | (go_simp; done) | (go_simp; rfl)); intro gb246 hg w11 hbox hb; have n0_ := Aside0.mk (Kd.R_below (Kd.R_elderB (by (with_reducible repeat (first | apply Kd.R_alloc | apply Kd.R_drewN | apply Kd.R_drew)); exact HO_5.out) gb246 (Nat.le_of_eq hg.symm)) hb); have n1_ := Aside0.mk (below_step (by repeat (first | (with_reducible first | exact HB.out | apply below_alloc | apply pw_below_drewN | apply below_drew1) | exact HB.out)) hb); have n2_ := Aside0.mk (hbox); have n3_ := Aside0.mk ((by rw [hg]; exact (below_size (by repeat (first | (with_reducible first | exact HB.out | apply below_alloc | apply pw_below_drewN | apply below_drew1) | exact HB.out))) : w.heap.size ≤ gb246)); have n4_ := Aside0.mk ((by rw [hg]; exact (below_size (by repeat (first | (with_reducible first | exact HB.out | apply below_alloc | apply pw_below_drewN | apply below_drew1) | exact HB.out))) : w.heap.size ≤ gb246)); clear HO_5; clear HB; have HO_5 := n0_; have HB := n1_; have BK246 := n2_; have GW246 := n3_; have GE246 := n4_; clear n0_ n1_ n2_ n3_ n4_; clear hb hbox hg; have hcz12_0 : w11.cell? ⟨gb246, 0, none⟩ = some (.bool false) := (blk_cell BK246.out 0).trans rfl; have hcz12_1 : w11.cell? ⟨gb246, 1, none⟩ = some (.int .i64 0) := (blk_cell BK246.out 1).trans rfl; have hcy_ := (blk_cell (blk_put (blk_put BK246.out 0 (.bool true) rfl) 1 (.int .i64 ((rd_T46 l0 x10_1).f1)) rfl) 1).trans (show _ = some (.int .i64 ((rd_T46 l0 x10_1).f1)) from rfl); have hfz12_0 := blk_frozen BK246.out 0; have hfz12_1 := blk_frozen BK246.out 1; have p247 : 0 ≤ (((rd_T46 l0 x10_1).f1) : Int) := of_decide_eq_true (by first | (with_reducible assumption) | assumption); have q247 : ((rd_T46 l0 x10_1).f1) < (l1.length : Int) := of_decide_eq_true (by first | (with_reducible assumption) | assumption); obtain ⟨ad247, e247, hx247_0⟩ := Kd.at_int HR1.out ((rd_T46 l0 x10_1).f1) p247 q247; cases e247; have hn247_0 : ad247.block ≠ gb246 := Nat.ne_of_lt (Nat.lt_of_lt_of_le (by have := World.block_lt_of_cell? _ _ hx247_0; first | rwa [add_block] at this | exact this) GW246.out); have hn247_1 : ad247.block ≠ gb246 := Nat.ne_of_lt (Nat.lt_of_lt_of_le (by have := World.block_lt_of_cell? _ _ hx247_0; first | rwa [add_block] at this | exact this) GW246.out); replace hx247_0 := (HB.out.cell (World.block_lt_of_cell? w _ hx247_0)).trans hx247_0; replace hx247_0 := (cell_far (p := ⟨gb246, 0, none⟩) (by first | (rw [add_block]; exact hn247_0) | (show (Addr.add _ _).block ≠ _; rw [add_block]; exact hn247_0) | exact hn247_0) (.bool true)).trans hx247_0; replace hx247_0 := (cell_far (p := ⟨gb246, 1, none⟩) (by first | (rw [add_block]; exact hn247_1) | (show (Addr.add _ _).block ≠ _; rw [add_block]; exact hn247_1) | exact hn247_1) (.int .i64 ((rd_T46 l0 x10_1).f1))).trans hx247_0; clear hn247_0; clear hn247_1; replace p247 := eq_true p247; replace q247 := eq_true q247) | ((with_reducible refine gate_builtin (b := .append) (xs := #[.tmp 22, .tmp 24]) rfl ?_); at_builtin; refine Kd.R_append k46 (w0 := w) w.heap.size rfl (.tmp 22) (.tmp 24) 35 46 (.agg #[(.bool false), (.int .i64 0)]) 16 rfl Try.underlying35 info46 rfl (by decide) (by omega) u5 x5_1 (⟨true, rd l1 ((rd_T46 l0 x10_1).f1)⟩ : S46) [.bool true, .int .i64 (rd l1 ((rd_T46 l0 x10_1).f1))] (fun k_ => k_ ≠ gb246) (fun _ => False) rfl (by first | (go_simp; done) | (go_simp; rfl)) ?aP (fun _ hk => hk.elim) ?aF ?aO ?aB ?aS ?aL ?_; (case aP => exact k46_mkM _ _ _ (⟨true, rd l1 ((rd_T46 l0 x10_1).f1)⟩ : S46)); (case aB => exact (by repeat (first | (with_reducible first | exact HB.out | apply below_alloc | apply pw_below_drewN | apply below_drew1 | refine below_set ?_ GE246.out) | exact HB.out))); (case aF => exact (fun k_ hk => Kd.freshB (g := gb246) (o := .cells #[.bool true, .int .i64 (rd l1 ((rd_T46 l0 x10_1).f1))] 46 (0, 0)) (by (with_reducible repeat (first | refine blk_drewN ?_ _ | refine blk_drew ?_ | refine blk_alloc ?_ _)); refine blk_put (cs := #[.bool true, .int .i64 ((rd_T46 l0 x10_1).f1)]) ?_ 1 _ rfl; (with_reducible repeat (first | refine blk_drewN ?_ _ | refine blk_drew ?_ | refine blk_alloc ?_ _)); refine blk_put (cs := #[.bool true, .int .i64 0]) ?_ 1 _ rfl; (with_reducible repeat (first | refine blk_drewN ?_ _ | refine blk_drew ?_ | refine blk_alloc ?_ _)); refine blk_put (cs := #[.bool false, .int .i64 0]) ?_ 0 _ rfl; (with_reducible repeat (first | refine blk_drewN ?_ _ | refine blk_drew ?_ | refine blk_alloc ?_ _)); exact BK246.out) k_ hk)); (case aO => exact (by (with_reducible repeat (first | apply Kd.R_alloc | apply Kd.R_drewN | apply Kd.R_drew)); exact Kd.R_mono (Kd.R_far (p := ⟨gb246, 1, none⟩) (Kd.R_far (p := ⟨gb246, 1, none⟩) (Kd.R_far (p := ⟨gb246, 0, none⟩) (Kd.R_mono HO_5.out (fun k_ hk => (⟨hk, hk.2⟩ : _ ∧ k_ ≠ gb246))) (fun _ hk => hk.2) (.bool true)) (fun _ hk => hk.2) (.int .i64 ((rd_T46 l0 x10_1).f1))) (fun _ hk => hk.2) (.int .i64 (rd l1 ((rd_T46 l0 x10_1).f1)))) (fun _ hk => hk.1.2))); (case aS => exact (below_size (by repeat (first | (with_reducible first | exact HB.out | apply below_alloc | apply pw_below_drewN | apply below_drew1 | refine below_set ?_ GE246.out) | exact HB.out)))); (case aL => have := LMc10.out; omega); intro v249 w13 ho hb hg hat; rw [← Ny248.out] at ho; have n0_ := Aside0.mk (blk_grown (g := gb246) (o := .cells #[.bool true, .int .i64 (rd l1 ((rd_T46 l0 x10_1).f1))] 46 (0, 0)) (by (with_reducible repeat (first | refine blk_drewN ?_ _ | refine blk_drew ?_ | refine blk_alloc ?_ _)); refine blk_put (cs := #[.bool true, .int .i64 ((rd_T46 l0 x10_1).f1)]) ?_ 1 _ rfl; (with_reducible repeat (first | refine blk_drewN ?_ _ | refine blk_drew ?_ | refine blk_alloc ?_ _)); refine blk_put (cs := #[.bool true, .int .i64 0]) ?_ 1 _ rfl; (with_reducible repeat (first | refine blk_drewN ?_ _ | refine blk_drew ?_ | refine blk_alloc ?_ _)); refine blk_put (cs := #[.bool false, .int .i64 0]) ?_ 0 _ rfl; (with_reducible repeat (first | refine blk_drewN ?_ _ | refine blk_drew ?_ | refine blk_alloc ?_ _)); exact BK246.out) hg (Kd.R_away HO_5.out (fun _ hk => hk.2))); have n1_ := Aside0.mk (hb); have n2_ := Aside0.mk (ho); clear BK246; clear HB; clear HO_5; have BK246 := n0_; have HB := n1_; have HO250 := n2_; clear n0_ n1_ n2_; clear ho hb hg hat))
                    go_roundg k1
                    case measure => have := HK1.out; omega
                    case rel => exact ⟨(y248), (wrap64 (x10_1 + 1)), (by first | rfl | (simp; done) | (simp [*]; done)), H', ⟨by have := HK1.out; omega⟩, ⟨by (with_reducible repeat (first | apply Kd.R_alloc | apply Kd.R_drewN | apply Kd.R_drew)); exact Kd.R_mono HO250.out (fun _ hk => trivial)⟩, ⟨by repeat (first | (with_reducible first | exact HB.out | apply below_alloc | apply pw_below_drewN | apply below_drew1 | refine below_set ?_ GE246.out) | exact HB.out)⟩⟩
                  · rw [if_neg c10] at H
                    exact absurd H (by simp)
                · rw [if_neg c9] at H
                  exact absurd H (by simp)
              · rw [if_neg c8] at H
                exact absurd H (by simp)
            · replace c7 := Bool.eq_false_iff.mpr c7
              subst c7
              have H1 : (if x5_1.length < 8796093022208 then (impl_moveVals.l0 k1 l1 (x5_1 ++ [(⟨false, (rd_T46 l0 x10_1).f1⟩ : S46)]) l0 (l0.length : Int) (wrap64 (x10_1 + 1))) else (none)) = some r := by rw [if_neg (show ¬ (false = true) by decide)] at H; exact H
              clear H
              have H := H1
              clear H1
              by_cases c14 : x5_1.length < 8796093022208
              · rw [if_pos c14] at H
                have LMc14 := Aside0.mk c14
                clear c14
                obtain ⟨y251, hy251⟩ : ∃ y_ : List (S46), y_ = (x5_1 ++ [(⟨false, (rd_T46 l0 x10_1).f1⟩ : S46)]) := ⟨_, rfl⟩
                replace H : (impl_moveVals.l0 k1 l1 y251 l0 (l0.length : Int) (wrap64 (x10_1 + 1))) = some r := by first | (rw [hy251]; with_reducible exact H) | (have H2_ := (Option.bind_some _ _).symm.trans H; rw [hy251]; with_reducible exact H2_) | (have H2_ := (Option.bind_some _ _).symm.trans H; with_reducible exact H2_) | with_reducible exact H | (rw [hy251]; exact H) | exact H
                have Ny251 := Aside0.mk hy251
                clear hy251
                have H' := Aside0.mk H
                clear H
                have p245 : 0 ≤ (x10_1 : Int) := of_decide_eq_true (by first | (with_reducible assumption) | assumption)
                have q245 : x10_1 < (l0.length : Int) := of_decide_eq_true (by first | (with_reducible assumption) | assumption)
                obtain ⟨ad245, e245, hx245_0, hx245_1⟩ := at_T46 HR0.out x10_1 p245 q245
                (try rw [← Nbq6.out] at hx245_0)
                cases e245
                replace hx245_0 := (HB.out.cell (World.block_lt_of_cell? w _ hx245_0)).trans hx245_0
                replace hx245_1 := (HB.out.cell (World.block_lt_of_cell? w _ hx245_1)).trans hx245_1
                replace p245 := eq_true p245
                replace q245 := eq_true q245
                go_wp2_with (first | ((with_reducible refine gate_dst (N := 7) rfl ?_); refine box_event ?hg (N := 7) ?hd (cs := #[.bool false, .int .i64 0]) (t := 46) ?hr ?_; (case hd => rfl); (case hg => rfl); (case hr => first | (go_simp; done) | (go_simp; rfl)); intro gb246 hg w15 hbox hb; have n0_ := Aside0.mk (Kd.R_below (Kd.R_elderB (by (with_reducible repeat (first | apply Kd.R_alloc | apply Kd.R_drewN | apply Kd.R_drew)); exact HO_5.out) gb246 (Nat.le_of_eq hg.symm)) hb); have n1_ := Aside0.mk (below_step (by repeat (first | (with_reducible first | exact HB.out | apply below_alloc | apply pw_below_drewN | apply below_drew1) | exact HB.out)) hb); have n2_ := Aside0.mk (hbox); have n3_ := Aside0.mk ((by rw [hg]; exact (below_size (by repeat (first | (with_reducible first | exact HB.out | apply below_alloc | apply pw_below_drewN | apply below_drew1) | exact HB.out))) : w.heap.size ≤ gb246)); have n4_ := Aside0.mk ((by rw [hg]; exact (below_size (by repeat (first | (with_reducible first | exact HB.out | apply below_alloc | apply pw_below_drewN | apply below_drew1) | exact HB.out))) : w.heap.size ≤ gb246)); clear HO_5; clear HB; have HO_5 := n0_; have HB := n1_; have BK246 := n2_; have GW246 := n3_; have GE246 := n4_; clear n0_ n1_ n2_ n3_ n4_; clear hb hbox hg; have hcz16_0 : w15.cell? ⟨gb246, 0, none⟩ = some (.bool false) := (blk_cell BK246.out 0).trans rfl; have hcz16_1 : w15.cell? ⟨gb246, 1, none⟩ = some (.int .i64 0) := (blk_cell BK246.out 1).trans rfl; have hfz16_0 := blk_frozen BK246.out 0; have hfz16_1 := blk_frozen BK246.out 1) | ((with_reducible refine gate_builtin (b := .append) (xs := #[.tmp 22, .tmp 24]) rfl ?_); at_builtin; refine Kd.R_append k46 (w0 := w) w.heap.size rfl (.tmp 22) (.tmp 24) 35 46 (.agg #[(.bool false), (.int .i64 0)]) 16 rfl Try.underlying35 info46 rfl (by decide) (by omega) u5 x5_1 (⟨false, (rd_T46 l0 x10_1).f1⟩ : S46) [.bool false, .int .i64 ((rd_T46 l0 x10_1).f1)] (fun k_ => k_ ≠ gb246) (fun _ => False) rfl (by first | (go_simp; done) | (go_simp; rfl)) ?aP (fun _ hk => hk.elim) ?aF ?aO ?aB ?aS ?aL ?_; (case aP => exact k46_mkM _ _ _ (⟨false, (rd_T46 l0 x10_1).f1⟩ : S46)); (case aB => exact (by repeat (first | (with_reducible first | exact HB.out | apply below_alloc | apply pw_below_drewN | apply below_drew1 | refine below_set ?_ GE246.out) | exact HB.out))); (case aF => exact (fun k_ hk => Kd.freshB (g := gb246) (o := .cells #[.bool false, .int .i64 ((rd_T46 l0 x10_1).f1)] 46 (0, 0)) (by (with_reducible repeat (first | refine blk_drewN ?_ _ | refine blk_drew ?_ | refine blk_alloc ?_ _)); refine blk_put (cs := #[.bool false, .int .i64 0]) ?_ 1 _ rfl; (with_reducible repeat (first | refine blk_drewN ?_ _ | refine blk_drew ?_ | refine blk_alloc ?_ _)); refine blk_put (cs := #[.bool false, .int .i64 0]) ?_ 0 _ rfl; (with_reducible repeat (first | refine blk_drewN ?_ _ | refine blk_drew ?_ | refine blk_alloc ?_ _)); exact BK246.out) k_ hk)); (case aO => exact (by (with_reducible repeat (first | apply Kd.R_alloc | apply Kd.R_drewN | apply Kd.R_drew)); exact Kd.R_mono (Kd.R_far (p := ⟨gb246, 1, none⟩) (Kd.R_far (p := ⟨gb246, 0, none⟩) (Kd.R_mono HO_5.out (fun k_ hk => (⟨hk, hk.2⟩ : _ ∧ k_ ≠ gb246))) (fun _ hk => hk.2) (.bool false)) (fun _ hk => hk.2) (.int .i64 ((rd_T46 l0 x10_1).f1))) (fun _ hk => hk.1.2))); (case aS => exact (below_size (by repeat (first | (with_reducible first | exact HB.out | apply below_alloc | apply pw_below_drewN | apply below_drew1 | refine below_set ?_ GE246.out) | exact HB.out)))); (case aL => have := LMc14.out; omega); intro v252 w17 ho hb hg hat; rw [← Ny251.out] at ho; have n0_ := Aside0.mk (blk_grown (g := gb246) (o := .cells #[.bool false, .int .i64 ((rd_T46 l0 x10_1).f1)] 46 (0, 0)) (by (with_reducible repeat (first | refine blk_drewN ?_ _ | refine blk_drew ?_ | refine blk_alloc ?_ _)); refine blk_put (cs := #[.bool false, .int .i64 0]) ?_ 1 _ rfl; (with_reducible repeat (first | refine blk_drewN ?_ _ | refine blk_drew ?_ | refine blk_alloc ?_ _)); refine blk_put (cs := #[.bool false, .int .i64 0]) ?_ 0 _ rfl; (with_reducible repeat (first | refine blk_drewN ?_ _ | refine blk_drew ?_ | refine blk_alloc ?_ _)); exact BK246.out) hg (Kd.R_away HO_5.out (fun _ hk => hk.2))); have n1_ := Aside0.mk (hb); have n2_ := Aside0.mk (ho); clear BK246; clear HB; clear HO_5; have BK246 := n0_; have HB := n1_; have HO253 := n2_; clear n0_ n1_ n2_; clear ho hb hg hat))
                go_roundg k1
                case measure => have := HK1.out; omega
                case rel => exact ⟨(y251), (wrap64 (x10_1 + 1)), (by first | rfl | (simp; done) | (simp [*]; done)), H', ⟨by have := HK1.out; omega⟩, ⟨by (with_reducible repeat (first | apply Kd.R_alloc | apply Kd.R_drewN | apply Kd.R_drew)); exact Kd.R_mono HO253.out (fun _ hk => trivial)⟩, ⟨by repeat (first | (with_reducible first | exact HB.out | apply below_alloc | apply pw_below_drewN | apply below_drew1 | refine below_set ?_ GE246.out) | exact HB.out)⟩⟩
              · rw [if_neg c14] at H
                exact absurd H (by simp)
          · rw [if_neg c5] at H
            exact absurd H (by simp)
        · rw [if_neg c4] at H
          exact absurd H (by simp)
      · rw [if_neg c3] at H
        have c3b0 : decide (x10_1 < (l0.length : Int)) = false := decide_eq_false c3
        clear c3
        obtain rfl := Option.some.inj H
        simp only [Option.some.injEq, Prod.mk.injEq] at H
        obtain ⟨rfl⟩ := H
        go_wp2
        go_ret
        exact ⟨_, by first | rfl | (simp [errW_none, errW_some] <;> rfl) | (simp [*, errW_none, errW_some] <;> rfl), by (with_reducible repeat (first | apply Kd.R_alloc | apply Kd.R_drewN | apply Kd.R_drew)); exact HO_5.out, by repeat (first | (with_reducible first | exact HB.out | apply below_alloc | apply pw_below_drewN | apply below_drew1) | exact HB.out)⟩
end Go.Proofs.Yteeakklnlcjgbaa.P

end
section

namespace Go.Proofs.Yteeakklnlcjgbaa.P
open Go Go.RowKit Go.Proofs.YteeakklnlcjgbaaW.PrintWords Go.Proofs.YteeakklnlcjgbaaW.PrintLast Go.Proofs.YteeakklnlcjgbaaW.PrintMore
attribute [local go_sem] max2_int min2_int max_two min_two max_three min_three max_four min_four
attribute [local go_sem] Oper.semAt_some
set_option linter.unusedVariables false
set_option linter.unusedSimpArgs false
def impl_HeapGraph.T13 : Bool × List (List Nat × List Nat) := (true, [([], []), ([], []), ([], []), ([2], [2]), ([1, 3], [1, 3]), ([4], [4]), ([5], [5]), ([], []), ([], []), ([8], [8]), ([7, 9], [7, 9]), ([10], [10]), ([11], [11]), ([], []), ([12, 13], [12, 13]), ([6, 14], [6, 14]), ([15], [15]), ([0, 16, 14], [0, 16]), ([17, 17, 0, 1, 2, 3, 4, 5, 6, 7, 8, 9, 10, 11, 12, 13, 14, 15, 16, 17], [0, 17])])
def impl_HeapGraph.B13 : List Nat := [0, 0, 0, 4, 14, 30, 62, 0, 0, 256, 896, 1920, 3968, 0, 16256, 32766, 65534, 131071, 262143]
theorem impl_HeapGraph.tab13 : rtab .any (opsOf Try.f24 13) = impl_HeapGraph.T13 := by kernel_rfl
theorem impl_HeapGraph.bits13 : waitsOk impl_HeapGraph.T13.2 impl_HeapGraph.B13 = true := by kernel_rfl
theorem own_C {w : World} {B c : Nat} {A : Option Addr} {xs : List Int} (h : w.ownsRow B 3 1 (.slice A xs.length c) xs.length (intV xs)) : Kd.C (Kd.int .i64) w A xs.length xs := by
  have hR : Kd.R (Kd.int .i64) 3 w B (fun _ => True) (.slice A xs.length c) xs := by
    refine ⟨fun _ _ => trivial, intV xs, h, by simp [intV, Kd.int, Kd.scalar], fun j p hj => ?_⟩
    show _ = [Value.int .i64 p]
    obtain ⟨hlt, rfl⟩ := List.getElem?_eq_some_iff.1 hj
    show ((intV xs).drop (j * 1)).take 1 = _
    rw [Nat.mul_one, List.drop_eq_getElem_cons (by simpa [intV] using hlt)]
    simp [intV]
  exact (Kd.R_reads' hR).2.2
theorem wpIn_world {F : Fence} {n : Nat} {P : Program} {c : Code} {Q : Exit → Act → World → Prop} {a : Act} {w : World} (Pr : World → Prop) (h : Pr w) (k : ∀ w', Pr w' → c.wpIn F n P Q a w') : c.wpIn F n P Q a w := k w h
theorem toL_get {n : Nat} {o : List Int} {m : Int} (h0 : 0 ≤ m) (h1 : m < (n : Int)) : (intV (g_toL n o)).toArray[m.toNat]? = some (.int .i64 (g_num o m)) := by
  have : ((m.toNat : Nat) : Int) = m := Int.toNat_of_nonneg h0
  simp [intV, g_toL, show m.toNat < n by omega, this]
set_option maxHeartbeats 8000000 in
set_option maxRecDepth 100000 in
theorem impl_HeapGraph.calls (k : Nat) (A0 : Option Addr) (c0 : Nat) (l0 : List GObj) (A1 : Option Addr) (c1 : Nat) (l1 : List GVal) (r1 : List GObj) (r2 : List GVal) (w : World) (hr0 : Kd.C k48 w A0 l0.length l0) (hc0 : l0.length ≤ c0) (hr1 : Kd.C k46 w A1 l1.length l1) (hc1 : l1.length ≤ c1) (h : impl_HeapGraph.f k l0 l1 = some (r1, r2)) :
    Calls Try.prog 24 #[.slice A0 l0.length c0, .slice A1 l1.length c1] w fun e w' => ∃ v0_ v1_ : Value, e = .returned (.tuple #[v0_, v1_]) ∧ Kd.S k48 48 w' w.heap.size (fun k_ => some k_ ≠ (v1_ : Value).ownBlock) v0_ r1 ∧ Kd.R k46 46 w' w.heap.size (fun _ => True) v1_ r2 ∧ Below w.heap.size w w' := by
  have HR0 := Aside0.mk hr0
  have HC0 := Aside0.mk hc0
  have HR1 := Aside0.mk hr1
  have HC1 := Aside0.mk hc1
  clear hr0 hc0 hr1 hc1
  have HB := Aside0.mk (Below.refl w.heap.size w)
  rw [impl_HeapGraph.f] at h
  obtain ⟨ok, Aok, H⟩ := Option.bind_eq_some_iff.mp h
  clear h
  have AOK := Aside0.mk Aok
  clear Aok
  refine callsIn_wide.1 (callsIn_of_wp_marks (n := 0) Try.func24 rfl trivial ?_ rfl)
  refine wpIn_wide.2 ?_
  simp only [Try.ntmps24, List.size_toArray, List.length_cons, List.length_nil, Nat.reduceAdd, Nat.reduceSub, Array.replicate_succ, Array.replicate_zero, List.push_toArray, List.append_toArray, List.nil_append, List.cons_append]
  cases ok with
  | false =>
    rw [if_neg (by simp)] at H
    obtain ⟨rfl, rfl⟩ : [] = r1 ∧ [] = r2 := by simpa using H
    go_wp2_with (first | ((with_reducible refine gate_callee (f := 20) rfl ?_); refine goesL_ (some 14) rfl rfl Try.func20 (by kernel_rfl) rfl #[.slice A0 l0.length c0, .slice A1 l1.length c1] rfl (by (try simp only [List.map_toArray, List.map_cons, List.map_nil]); first | done | rfl) ?_; (with_reducible refine (impl_HeapOk.calls k A0 c0 l0 A1 c1 l1 false w ?side1 ?side2 ?side3 ?side4 AOK.out).mono ?_); (case side1 => exact HR0.out); (case side2 => exact HC0.out); (case side3 => exact HR1.out); (case side4 => exact HC1.out); rintro e w4 ⟨rfl, hb⟩; refine ⟨_, rfl, ?_⟩; have HB4 := Aside0.mk hb; clear hb))
    refine ⟨_, results_tmp2 rfl _ _ _, ?_⟩
    exact ⟨_, _, rfl, Kd.S_nil _ _ _ _ _, Kd.R_nil _ _ _ _ _, HB4.out⟩
  | true =>
    rw [if_pos rfl] at H
    by_cases hl : l0.length + 1 < 8796093022208
    · rw [if_pos hl] at H
      replace H := Option.bind_eq_some_iff.mp H
      obtain ⟨o1, AO1, H⟩ := H
      replace H := Option.bind_eq_some_iff.mp H
      obtain ⟨o, AO, H⟩ := H
      have HO1 := Aside0.mk AO1
      have HO := Aside0.mk AO
      have HL := Aside0.mk hl
      have H' := Aside0.mk H
      clear AO1 AO H
      have hwr : wrap64 ((l0.length : Int) + 1) = (l0.length : Int) + 1 := by unfold wrap64; omega
      have hmk : ∀ W : World, (Instr.makeSlice 55 (.int .i64 ((l0.length : Int) + 1)) (.int .i64 ((l0.length : Int) + 1))).run Try.prog W = .ok (.slice (some ⟨W.heap.size, 0, none⟩) (l0.length + 1) (l0.length + 1)) (W.alloc (.cells (intV (g_toL (l0.length + 1) [])).toArray 3)) := by
        have h_ := print_make_int (P := Try.prog) 55 3 (.int .i64 0) 8 Try.underlying55 info3 rfl (by decide) ((l0.length + 1 : Nat) : Int) (by omega) (by simp; omega)
        rw [Int.toNat_natCast, made_int] at h_
        exact h_
      clear hl
      go_upto_region 5 with (first | ((with_reducible refine gate_callee (f := 20) rfl ?_); refine goesL_ (some 14) rfl rfl Try.func20 (by kernel_rfl) rfl #[.slice A0 l0.length c0, .slice A1 l1.length c1] rfl (by (try simp only [List.map_toArray, List.map_cons, List.map_nil]); first | done | rfl) ?_; (with_reducible refine (impl_HeapOk.calls k A0 c0 l0 A1 c1 l1 true w ?side1 ?side2 ?side3 ?side4 AOK.out).mono ?_); (case side1 => exact HR0.out); (case side2 => exact HC0.out); (case side3 => exact HR1.out); (case side4 => exact HC1.out); rintro e w4 ⟨rfl, hb⟩; refine ⟨_, rfl, ?_⟩; have HB4 := Aside0.mk hb; clear hb))
      obtain ⟨gt, hgt⟩ : ∃ b_, b_ = w4.heap.size := ⟨_, rfl⟩
      have HGT := Aside0.mk (show w.heap.size ≤ gt by rw [hgt]; exact HB4.out.size)
      refine wp_world (fun W => Aside0 (W.heap[gt]? = some (.cells (intV (g_toL (l0.length + 1) [])).toArray 3 (0, 0)) ∧ W.heap[gt + 1]? = some (.cells #[.slice (some ⟨gt, 0, none⟩) (l0.length + 1) (l0.length + 1)] 55 (0, 0)) ∧ W.heap[gt + 1 + 1]? = some (.cells #[.slice none 0 0] 55 (0, 0)) ∧ Below w.heap.size w W)) ?_ ?_
      · subst hgt
        have hB := HB4.out
        exact ⟨blk_alloc (blk_alloc (blk_new _ _) _) _, blk_alloc (blk_new' (by simp)) _, blk_new' (by simp), ((hB.alloc hB.size _).alloc (by have := hB.size; simp; omega) _).alloc (by have := hB.size; simp; omega) _⟩
      rw [← hgt]
      clear HB4 hmk hwr hgt HB
      intro w5 HG5
      go_wp2_with (first | ((with_reducible refine gate_callee (f := 43) rfl ?_); refine goesL_ (some 22) rfl rfl Try.func43 (by kernel_rfl) rfl #[.slice A0 l0.length c0, .slice A1 l1.length c1] rfl (by (try simp only [List.map_toArray, List.map_cons, List.map_nil]); first | done | rfl) ?_; (with_reducible refine (reached.calls A0 l0.length c0 A1 l1.length c1 w5).mono ?_); rintro e w6 ⟨rfl, hw⟩; refine ⟨_, rfl, ?_⟩; have HW := Aside0.mk hw; clear hw))
      refine range_law 50 #[.pointer (some ⟨w5.heap.size, 0, none⟩), .pointer (some ⟨w5.heap.size + 1, 0, none⟩)] rfl (fun args w_ => enters_ Try.func50 (by kernel_rfl) rfl args w_) ?_
      intro fn rc hrc
      obtain ⟨a0, ha0⟩ : ∃ a0 : GA, a0 = { N := l0.length + 1, bs := 0, gs := 0, bq := 0, bj := 0, bt := gt + 1, gt := gt, bo := gt + 1 + 1, L := w6.heap.size + 1, D := w6.heap.size, rc := rc, bb := 0, vb := undef } := ⟨_, rfl⟩
      have hR : ∀ bs gs bq bj bb vb, GRound w (a0.at bs gs bq bj bb vb) := by
        intro bs gs bq bj bb vb o' m vq vo W hG h0 h1 h2 h3
        have hrc0 := hG.c.rc
        refine ⟨_, _, _, _, run_yield hrc0 (by rw [ha0]; show _ = rc.params.size; rw [hrc]; rfl), roundIn_of_wpIn trivial ?_⟩
        obtain ⟨a1, ha1⟩ : ∃ a1 : GA, a1 = a0.at bs gs bq bj bb vb := ⟨_, rfl⟩
        rw [← ha1] at hG h1 hrc0 ⊢
        have e1 : a1.rc = rc := by rw [ha1, ha0]; rfl
        have eL : a1.L = w6.heap.size + 1 := by rw [ha1, ha0]; rfl
        obtain ⟨a2, ha2⟩ : ∃ a2 : GA, a2 = { a1 with rc := { rc with state := .busy } } := ⟨_, rfl⟩
        have e2 : ({ a2 with rc := rc } : GA) = a1 := by rw [ha2, ← e1]
        have e3 : a2.rc = { rc with state := .busy } := by rw [ha2]
        have eL2 : a2.L = a1.L := by rw [ha2]
        have ebo : a2.bo = gt + 1 + 1 := by rw [ha2, ha1, ha0]; rfl
        have ebt : a2.bt = gt + 1 := by rw [ha2, ha1, ha0]; rfl
        have egt : a2.gt = gt := by rw [ha2, ha1, ha0]; rfl
        have eN : a2.N = l0.length + 1 := by rw [ha2, ha1, ha0]; rfl
        have h1' : m < ((l0.length + 1 : Nat) : Int) := by rw [show a1.N = l0.length + 1 from by rw [ha1, ha0]; rfl] at h1; exact h1
        have hG2 := Aside0.mk (hG.turn { rc with state := .busy })
        rw [← ha2] at hG2
        rw [e1] at hrc0 ⊢
        rw [hrc]
        gi_wp2
        refine ⟨_, run_beginRound hrc0 (by rw [hrc]), ?_⟩
        rw [← eL2] at hG2 ⊢
        have e4 : ({ a2.rc with state := .ready, pending := none } : Loop) = rc := by rw [e3, hrc]
        refine wpIn_world (fun W' => Aside0 (GB w a2 (o' ++ [m]) o' vq vo W')) hG2 ?_
        have E2 := Aside0.mk e2
        have E4 := Aside0.mk e4
        have EBO := Aside0.mk ebo
        have EGT := Aside0.mk egt
        have EL := Aside0.mk eL2
        clear hG hrc0 hG2 h1 ha2 ha1 ha0 hrc e1 e2 e3 e4 eL
        clear W
        intro W2 hG2
        have HM := Aside0.mk h2
        have HM0 := Aside0.mk h0
        have HM1 := Aside0.mk h1'
        have HL3 := Aside0.mk h3
        clear h0 h1' h2 h3
        have htB : W2.heap[gt + 1]? = some (.cells #[.slice (some ⟨gt, 0, none⟩) (l0.length + 1) (l0.length + 1)] 55 (0, 0)) := by have := hG2.out.c.tB; rwa [ebt, egt, eN] at this
        have ht : W2.heap[gt]? = some (.cells (intV (g_toL (l0.length + 1) o')).toArray 3 (0, 0)) := by have := hG2.out.c.t; rwa [egt, eN] at this
        have hoB : W2.heap[gt + 1 + 1]? = some (.cells #[vo] 55 (0, 0)) := by have := hG2.out.c.oB; rwa [ebo] at this
        have hon : vo.ownBlock ≠ some gt := by have := hG2.out.c.on; rwa [egt] at this
        have hq0 : W2.cell? ⟨gt + 1 + 1, 0, none⟩ = some vo := (blk_cell hoB 0).trans rfl
        clear ebo ebt egt eN eL2
        obtain ⟨i0, hi, hz0, hz1, hz2⟩ := info_parts info3
        have c0 := eq_true HM0.out
        have c1 : (m < (l0.length : Int) + 1) = True := eq_true (by have := HM1.out; omega)
        gi_wp2_with (first | (gi_at_builtin; refine wpListIn_append_at _ rfl (.tmp 24) (.tmp 26) 55 rfl w.heap.size 3 i0 (.int .i64 0) 1 8 Try.underlying55 hi hz0 hz1 hz2 rfl (by decide) vo o'.length (intV o') rfl (hG2.out.c.o.alloc _) ⟨W2.heap.size, 0, none⟩ 1 1 [.int .i64 m] rfl rfl (cell_one_new _ _ _) (by simp [Value.oneCell']) (by have := HL3.out; simp only [maxLen]; omega) (by have := HL3.out; omega) (by have := hG2.out.b.size; simp; omega) ?_; intro v' W3 hown hgrow hat; obtain ⟨g', cap', rfl⟩ := ownsRow_succ hown; have HP := Aside0.mk (GC.push hG2.out.i hG2.out.c hG2.out.x hown rfl hgrow hat); have HB3 := Aside0.mk (hG2.out.b.trans (((Below.refl w.heap.size W2).alloc hG2.out.b.size _).grown hgrow (by have := hG2.out.b.size; simp; omega) (fun b e => (own_lt hG2.out.c.o e).2))); have ht1 : W3.cell? ⟨gt + 1, 0, none⟩ = some (.slice (some ⟨gt, 0, none⟩) (l0.length + 1) (l0.length + 1)) := (blk_cell (blk_grown (blk_alloc htB _) hgrow (fun e => own_ne hG2.out.c.o htB (fun _ => cells_ne (by decide)) e.symm)) 0).trans rfl; have ht2 := (blk_cell (blk_grown (blk_alloc ht _) hgrow (fun e => hon e.symm)) m.toNat).trans (toL_get HM0.out HM1.out); have ht3 := blk_frozen (blk_grown (blk_alloc ht _) hgrow (fun e => hon e.symm)) m.toNat; clear hown hgrow hat; have hq1 : W3.cell? ⟨gt + 1 + 1, 0, none⟩ = some vo := (by have h_ := (blk_cell HP.out.1 0).trans rfl; rwa [EBO.out] at h_); have hqf : W3.frozen? ⟨gt + 1 + 1, 0, none⟩ = false := (by have h_ := blk_frozen HP.out.1 0; rwa [EBO.out] at h_)))
        have h5 := HP.out.2
        rw [EBO.out] at h5
        have h6 := GC.mark h5.1 h5.2.1 h5.2.2 HM0.out HM.out (u := (o'.length : Int) + 1) rfl
        rw [EGT.out] at h6
        have hge := hG2.out.c.ge
        rw [EBO.out, EGT.out] at hge
        have hG4 : GB w a2 (o' ++ [m]) (o' ++ [m]) vq (.slice (some ⟨g', 0, none⟩) (o'.length + 1) cap') ((W3.setCell ⟨gt + 1 + 1, 0, none⟩ (.slice (some ⟨g', 0, none⟩) (o'.length + 1) cap')).setCell ⟨gt, m.toNat, none⟩ (.int .i64 ((o'.length : Int) + 1))) :=
          ⟨h6.1, h6.2, h5.2.2, (HB3.out.setCell (p := ⟨gt + 1 + 1, 0, none⟩) hge.2.1 _).setCell (p := ⟨gt, m.toNat, none⟩) hge.1 _⟩
        have hend := run_endRound (P := Try.prog) none hG4.c.rc
        have h7 := hG4.turn rc
        rw [E2.out] at h7
        rw [show ({ a2.rc with state := if (none : Option Code).isNone then .ready else .done, pending := none } : Loop) = rc from E4.out] at hend
        exact ⟨_, _, hend, rfl, _, h7⟩
      have hHG := HG5.out
      obtain ⟨ht, htB, hoB, hB⟩ := hHG
      have hW := HW.out
      have hs6 : w6.heap.size = w5.heap.size + 1 + 1 := by rw [hW]; simp
      have up : ∀ {b : Nat} {x : Obj}, w5.heap[b]? = some x → ((w6.alloc (.deferred (some []))).alloc (.loop rc)).heap[b]? = some x := fun hb => by rw [hW]; exact blk_alloc (blk_alloc (blk_alloc (blk_alloc hb _) _) _) _
      have hbb : ((w6.alloc (.deferred (some []))).alloc (.loop rc)).heap[w5.heap.size]? = some (.cells #[.slice A0 l0.length c0] 33 (0, 0)) := by rw [hW]; exact blk_alloc (blk_alloc (blk_alloc (blk_new _ _) _) _) _
      have hbr : ((w6.alloc (.deferred (some []))).alloc (.loop rc)).heap[w5.heap.size + 1]? = some (.cells #[.slice A1 l1.length c1] 35 (0, 0)) := by rw [hW]; exact blk_alloc (blk_alloc (blk_new' (by simp)) _) _
      have hsz := hB.size
      have hB1 : Below w.heap.size w ((w6.alloc (.deferred (some []))).alloc (.loop rc)) := by
        rw [hW]
        exact (((hB.alloc hsz _).alloc (by simp; omega) _).alloc (by simp; omega) _).alloc (by simp; omega) _
      have hC : GC w.heap.size a0 [] [] (.slice none 0 0) ((w6.alloc (.deferred (some []))).alloc (.loop rc)) := by
        rw [ha0]
        refine ⟨up htB, up ht, up hoB, ⟨by simp [intV], .inl ⟨rfl, rfl⟩⟩, by simp [Value.ownBlock], blk_new' (by simp), blk_alloc (blk_new _ _) _, ⟨HGT.out, ?_, ?_⟩, ?_⟩
        · show w.heap.size ≤ gt + 1 + 1
          have := HGT.out
          omega
        · show w.heap.size ≤ w6.heap.size + 1
          omega
        · show gt + 1 + 1 ≠ gt + 1
          omega
      have eL : a0.L = w6.heap.size + 1 := by rw [ha0]
      have hcall := reach_run.calls k w a0 hR A0 c0 l0 HR0.out HC0.out A1 c1 l1 HR1.out HC1.out w5.heap.size (w5.heap.size + 1) (by rw [ha0]) HL.out o1 o _ _ hbb hbr hC hB1 HO1.out HO.out
      rw [eL] at hcall
      refine hcall.mono ?_
      rintro e w7 ⟨hv, vo, hC7, hB7⟩
      refine ⟨hv, ?_, ?_⟩
      · have := hC7.rc
        rw [eL] at this
        rw [this, ha0]
      have hC8 := Aside0.mk (hC7.turn { rc with state := .exhausted })
      have hB8 := Aside0.mk (hB7.grown (grownBy_putObj' w7 a0.L (.loop { rc with state := .exhausted })) hB7.size (fun k e => by cases e; exact hC7.ge.2.2))
      rw [eL] at hC8 hB8
      generalize w7.putObj (w6.heap.size + 1) (.loop { rc with state := .exhausted }) = W8 at hC8 hB8 ⊢
      obtain ⟨Ao, co, rfl, hco⟩ := own_slice hC8.out.o
      have HTB : Aside0 (W8.heap[gt + 1]? = some (.cells #[.slice (some ⟨gt, 0, none⟩) (l0.length + 1) (l0.length + 1)] 55 (0, 0))) := ⟨by have := hC8.out.tB; rw [ha0] at this; exact this⟩
      have HT : Aside0 (W8.heap[gt]? = some (.cells (intV (g_toL (l0.length + 1) o)).toArray 3 (0, 0))) := ⟨by have := hC8.out.t; rw [ha0] at this; exact this⟩
      have HOB : Aside0 (W8.heap[gt + 1 + 1]? = some (.cells #[.slice Ao o.length co] 55 (0, 0))) := ⟨by have := hC8.out.oB; rw [ha0] at this; exact this⟩
      have HDF : Aside0 (W8.heap[w6.heap.size]? = some (.deferred (some []))) := ⟨by have := hC8.out.df; rw [ha0] at this; exact this⟩
      have HRO := Aside0.mk (own_C hC8.out.o)
      have HRT : Aside0 (Kd.C (Kd.int .i64) W8 (some ⟨gt, 0, none⟩) (g_toL (l0.length + 1) o).length (g_toL (l0.length + 1) o)) := ⟨own_C (B := 0) (c := l0.length + 1) ⟨by simp [intV], .inr ⟨gt, l0.length + 1, _, rfl, Nat.zero_le _, HT.out, by simp [length_toL], by have := HL.out; simp only [maxLen]; omega, by simp [intV, length_toL], List.take_of_length_le (by simp [intV, length_toL])⟩⟩⟩
      have HR08 := Aside0.mk (Kd.C_below HR0.out hB8.out)
      have HR18 := Aside0.mk (Kd.C_below HR1.out hB8.out)
      have HB8 := Aside0.mk hB8.out
      have HCO := Aside0.mk hco
      have HGD := Aside0.mk (show w.heap.size ≤ w6.heap.size by omega)
      clear hC8 hB8 hC7 hB7 hcall hC hB1 hbb hbr up ht htB hoB hB hR hW hs6 hsz hv HR0 HR1 HW HG5 hco
      clear ha0 hrc eL
      simp only [Act.put, List.setIfInBounds_toArray, List.set_cons_zero, List.set_cons_succ]
      have HQ := Aside0.mk (Below.refl W8.heap.size W8)
      have ho0 : W8.cell? ⟨gt + 1 + 1, 0, none⟩ = some (.slice Ao o.length co) := (blk_cell HOB.out 0).trans rfl
      replace H' := Option.bind_eq_some_iff.mp H'.out
      obtain ⟨g, AG, H'⟩ := H'
      have HAG := Aside0.mk AG
      replace H' := Option.bind_eq_some_iff.mp H'
      obtain ⟨r, AR, H'⟩ := H'
      have HAR := Aside0.mk AR
      obtain ⟨rfl, rfl⟩ : g = r1 ∧ r = r2 := by simpa using H'
      clear AG AR H'
      go_wp2
      go_loopg [9, 35] k (fun kq v9 v35 w' => ∃ (gl : List GObj) (i : Int), v35 = .int .i64 i ∧ Aside0 (g_out kq l0 (g_toL (l0.length + 1) o) o i gl = some g) ∧ Aside0 (kq ≤ k) ∧ Aside0 (Kd.S k48 48 w' W8.heap.size (fun _ => True) v9 gl) ∧ Aside0 (Below W8.heap.size W8 w'))
      case atStart => exact ⟨[], 0, rfl, HAG, ⟨Nat.le_refl _⟩, ⟨Kd.S_nil _ _ _ _ _⟩, HQ⟩
      case round =>
        clear HQ ho0 HAG
        obtain ⟨gl, i, rfl, HA, HK1, HO9, HB⟩ := hrel
        cases gk with
        | zero => exact absurd HA.out (by simp [g_out])
        | succ k1 =>
          have H := HA.out
          clear HA
          rw [g_out] at H
          by_cases c3 : i < (o.length : Int)
          · rw [if_pos c3] at H
            have c3b0 : decide (i < (o.length : Int)) = true := decide_eq_true c3
            by_cases c4 : 0 ≤ i ∧ 0 ≤ wrap64 (rd o i - 1) ∧ wrap64 (rd o i - 1) < (l0.length : Int)
            · rw [if_pos c4] at H
              obtain ⟨c5, c6, c7⟩ := c4
              replace H := Option.bind_eq_some_iff.mp H
              obtain ⟨vs, AV, H⟩ := H
              have AVS := Aside0.mk AV
              clear AV
              by_cases c8 : gl.length < 4398046511104
              · rw [if_pos c8] at H
                have LM := Aside0.mk c8
                have H' := Aside0.mk H
                clear c8 H
                obtain ⟨adq, eq, hq0⟩ := Kd.at_int HRO.out i c5 c3
                cases eq
                replace hq0 := (HB.out.cell (World.block_lt_of_cell? W8 _ hq0)).trans hq0
                obtain ⟨ad, A2, c2, e, hx0, hx1, hl2, hi2⟩ := at_T48 HR08.out (wrap64 (rd o i - 1)) c6 c7
                cases e
                have HR2 := Aside0.mk hi2
                have HC2 := Aside0.mk hl2
                have HX0 := Aside0.mk hx0
                have HX1 := Aside0.mk hx1
                have HX2 := Aside0.mk ((blk_cell HTB.out 0).trans (show _ = some (Value.slice (some ⟨gt, 0, none⟩) (l0.length + 1) (l0.length + 1)) from rfl))
                clear hl2 hi2
                replace hx0 := (HB.out.cell (World.block_lt_of_cell? W8 _ hx0)).trans hx0
                replace hx1 := (HB.out.cell (World.block_lt_of_cell? W8 _ hx1)).trans hx1
                have hx2 := (HB.out.cell (World.block_lt_of_cell? W8 _ HX2.out)).trans HX2.out
                replace c3 := eq_true c3
                replace c5 := eq_true c5
                replace c6 := eq_true c6
                replace c7 := eq_true c7
                go_upto_region 13 with fail
                refine wp_region_noPanic ?_
                refine start_ (n := 19) (S := fun w' => w'.cell? (ad.add ((wrap64 (rd o i - 1)).toNat * 2)) = some (.int .i64 (rd_T48 l0 (wrap64 (rd o i - 1))).f0) ∧ w'.cell? ⟨(ad.add ((wrap64 (rd o i - 1)).toNat * 2)).block, (ad.add ((wrap64 (rd o i - 1)).toNat * 2)).off + 1, none⟩ = some (.slice A2 (rd_T48 l0 (wrap64 (rd o i - 1))).f1.length c2) ∧ w'.cell? ⟨gt + 1, 0, none⟩ = some (.slice (some ⟨gt, 0, none⟩) (l0.length + 1) (l0.length + 1))) (ds := []) #[false, false, false, false, false, false, false, false, false, false, false, false, false, false, false, false, false, false, false] (by kernel_rfl) rfl rfl ⟨hx0, hx1, hx2⟩ (fun hHeld => ?_); refine with_tabW impl_HeapGraph.tab13 impl_HeapGraph.bits13 (fun HT_ HW_ => ?_)
                refine pu 0 39 #[true, false, false, false, false, false, false, false, false, false, false, false, false, false, false, false, false, false, false] HT_ rfl rfl ?_
                refine pu 1 40 #[true, true, false, false, false, false, false, false, false, false, false, false, false, false, false, false, false, false, false] HT_ rfl rfl ?_
                refine pu 2 41 #[true, true, true, false, false, false, false, false, false, false, false, false, false, false, false, false, false, false, false] HT_ rfl rfl ?_
                refine pu 3 42 #[true, true, true, true, false, false, false, false, false, false, false, false, false, false, false, false, false, false, false] HT_ rfl rfl ?_
                refine pu 4 43 #[true, true, true, true, true, false, false, false, false, false, false, false, false, false, false, false, false, false, false] HT_ rfl rfl ?_
                refine pu 5 44 #[true, true, true, true, true, true, false, false, false, false, false, false, false, false, false, false, false, false, false] HT_ rfl rfl ?_
                refine pu 7 46 #[true, true, true, true, true, true, false, true, false, false, false, false, false, false, false, false, false, false, false] HT_ rfl rfl ?_
                refine pu 8 47 #[true, true, true, true, true, true, false, true, true, false, false, false, false, false, false, false, false, false, false] HT_ rfl rfl ?_
                refine pu 9 48 #[true, true, true, true, true, true, false, true, true, true, false, false, false, false, false, false, false, false, false] HT_ rfl rfl ?_
                refine pu 10 49 #[true, true, true, true, true, true, false, true, true, true, true, false, false, false, false, false, false, false, false] HT_ rfl rfl ?_
                refine pu 11 50 #[true, true, true, true, true, true, false, true, true, true, true, true, false, false, false, false, false, false, false] HT_ rfl rfl ?_
                refine ta 6 45 #[true, true, true, true, true, true, true, true, true, true, true, true, false, false, false, false, false, false, false] HT_ HW_ hHeld rfl rfl ?_
                refine ta 12 51 #[true, true, true, true, true, true, true, true, true, true, true, true, true, false, false, false, false, false, false] HT_ HW_ hHeld rfl rfl ?_
                refine ta 13 52 #[true, true, true, true, true, true, true, true, true, true, true, true, true, true, false, false, false, false, false] HT_ HW_ hHeld rfl rfl ?_
                refine one_ (i := 14) (N := some 53) #[true, true, true, true, true, true, true, true, true, true, true, true, true, true, true, false, false, false, false] rfl rfl (one_of HT_.out (by kernel_rfl)) (by decide) (fun K hK => ?_)
                refine gs Try.func44 #[.slice A2 (rd_T48 l0 (wrap64 (rd o i - 1))).f1.length c2, .slice (some ⟨gt, 0, none⟩) (l0.length + 1) (l0.length + 1)] rfl rfl ?_
                have hmv := impl_moveVals.calls k1 A2 c2 (rd_T48 l0 (wrap64 (rd o i - 1))).f1 (some ⟨gt, 0, none⟩) (l0.length + 1) (g_toL (l0.length + 1) o) vs wr.drew (Kd.C_drew (Kd.C_below HR2.out HB.out)) HC2.out (Kd.C_drew (Kd.C_below HRT.out HB.out)) (by rw [length_toL]; exact Nat.le_refl _) AVS.out
                rw [length_toL] at hmv
                refine hmv.mono ?_
                clear hmv
                rintro e w9 ⟨mv, rfl, ho0, hb⟩
                refine ⟨_, rfl, ?_⟩
                have n0_ := Aside0.mk (Kd.S_elder' (Kd.S_drew HO9.out) (Kd.R_base ho0) hb)
                have n1_ := Aside0.mk (Kd.R_lower ho0 (below_size (below_drew1 HB.out)))
                have n2_ := Aside0.mk (below_step (below_drew1 HB.out) hb)
                clear HO9 HB ho0 hb
                have HO9 := n0_
                have HMV := n1_
                have HB := n2_
                clear n0_ n1_ n2_
                obtain ⟨Am, cm, rfl⟩ := Kd.R_slice HMV.out
                refine hK.out _ _ ⟨(HB.out.cell (World.block_lt_of_cell? W8 _ HX0.out)).trans HX0.out, (HB.out.cell (World.block_lt_of_cell? W8 _ HX1.out)).trans HX1.out, (HB.out.cell (World.block_lt_of_cell? W8 _ HX2.out)).trans HX2.out⟩ (fun hHeld => ?_)
                clear hK K
                refine no 53 ?_
                refine pu 15 54 #[true, true, true, true, true, true, true, true, true, true, true, true, true, true, true, true, false, false, false] HT_ rfl rfl ?_
                refine one_ (i := 16) (N := some 55) #[true, true, true, true, true, true, true, true, true, true, true, true, true, true, true, true, true, false, false] rfl rfl (one_of HT_.out (by kernel_rfl)) (by decide) (fun K hK => ?_)
                refine value_ (w1 := ?_) (v := ?_) (by rfl) rfl ?_ ?_
                rotate_left 2
                · go_simp
                  constructor
                  · rfl
                  · rfl
                refine hK.out _ _ ⟨((below_alloc HB.out _).cell (World.block_lt_of_cell? W8 _ HX0.out)).trans HX0.out, ((below_alloc HB.out _).cell (World.block_lt_of_cell? W8 _ HX1.out)).trans HX1.out, ((below_alloc HB.out _).cell (World.block_lt_of_cell? W8 _ HX2.out)).trans HX2.out⟩ (fun hHeld => ?_)
                clear hK K
                refine no 55 ?_
                refine one_ (i := 17) (N := some 56) #[true, true, true, true, true, true, true, true, true, true, true, true, true, true, true, true, true, true, false] rfl rfl (one_of HT_.out (by kernel_rfl)) (by decide) (fun K hK => ?_)
                refine Kd.S_append_step k48 (w0 := W8) W8.heap.size (by rfl) (.tmp 39) (.tmp 55) 33 48 (.agg #[(.int .i64 0), (.slice none 0 0)]) 32 rfl Try.underlying33 info48 rfl (by decide) (by omega) u9 gl (⟨(rd_T48 l0 (wrap64 (rd o i - 1))).f0, vs⟩ : GObj) [.int .i64 (rd_T48 l0 (wrap64 (rd o i - 1))).f0, .slice Am vs.length cm] (fun _ => True) (fun k_ => some k_ = (.slice Am vs.length cm : Value).ownBlock) rfl rfl ?aP (fun k_ hk_ => ⟨trivial, fun e_ => ((Kd.S_R HO9.out).1 k_ e_.symm).2 hk_⟩) (fun _ _ => trivial) ?aO ?aB ?aS ?aL ?_
                (case aP => exact k48_mkM _ _ _ (⟨(rd_T48 l0 (wrap64 (rd o i - 1))).f0, vs⟩ : GObj) (Kd.R_mono (Kd.R_tight rfl HMV.out) (fun _ h_ => h_)))
                (case aB => exact HB.out)
                (case aO => exact Kd.S_mono HO9.out (fun k_ hk => ⟨hk.1, fun e_ => hk.2 e_⟩))
                (case aS => exact HB.out.size)
                (case aL => have := LM.out; omega)
                intro v11 w11 ho hb hg hat
                clear HO9 HB
                have HO9 := Aside0.mk ho
                have HB := Aside0.mk hb
                clear ho hb hg hat
                refine hK.out _ _ ⟨(HB.out.cell (World.block_lt_of_cell? W8 _ HX0.out)).trans HX0.out, (HB.out.cell (World.block_lt_of_cell? W8 _ HX1.out)).trans HX1.out, (HB.out.cell (World.block_lt_of_cell? W8 _ HX2.out)).trans HX2.out⟩ (fun hHeld => ?_)
                clear hK K
                refine no 56 ?_
                refine pu 18 9 #[true, true, true, true, true, true, true, true, true, true, true, true, true, true, true, true, true, true, true] HT_ rfl rfl ?_
                refine done_ (done_of HT_.out (by kernel_rfl)) ?_
                dsimp only [NoPanic]
                go_wp2
                go_roundg k1
                case measure => have := HK1.out; omega
                case rel => exact ⟨gl ++ [(⟨(rd_T48 l0 (wrap64 (rd o i - 1))).f0, vs⟩ : GObj)], wrap64 (i + 1), rfl, H', ⟨by have := HK1.out; omega⟩, HO9, HB⟩
              · rw [if_neg c8] at H
                exact absurd H (by simp)
            · rw [if_neg c4] at H
              exact absurd H (by simp)
          · rw [if_neg c3] at H
            have c3b0 : decide (i < (o.length : Int)) = false := decide_eq_false c3
            obtain rfl := Option.some.inj H
            clear c3
            have HD8 := blk_lt HDF.out
            obtain ⟨Ag, cg, eg9⟩ := Kd.S_slice HO9.out
            (first | subst eg9 | (injection eg9 with f1_ f2_ f3_; subst f1_; subst f3_))
            have hx2 : wr.cell? ⟨gt + 1, 0, none⟩ = some (.slice (some ⟨gt, 0, none⟩) (l0.length + 1) (l0.length + 1)) := (blk_cell (blk_below HTB.out HB.out) 0).trans rfl
            go_wp2_with (first | ((with_reducible refine gate_callee (f := 44) rfl ?_); refine goesL_ (some 61) rfl rfl Try.func44 (by kernel_rfl) rfl #[.slice A1 l1.length c1, .slice (some ⟨gt, 0, none⟩) (l0.length + 1) (l0.length + 1)] rfl (by (try simp only [List.map_toArray, List.map_cons, List.map_nil]); first | done | rfl) ?_; have hmv := impl_moveVals.calls k A1 c1 l1 (some ⟨gt, 0, none⟩) (l0.length + 1) (g_toL (l0.length + 1) o) r wr (Kd.C_below HR18.out HB.out) HC1.out (Kd.C_below HRT.out HB.out) (by rw [length_toL]; exact Nat.le_refl _) HAR.out; rw [length_toL] at hmv; refine hmv.mono ?_; clear hmv; rintro e w9 ⟨mv, rfl, ho0, hb⟩; refine ⟨_, rfl, ?_⟩; have n0_ := Aside0.mk (Kd.S_elder' HO9.out (Kd.R_base ho0) hb); have n1_ := Aside0.mk (Kd.R_lower ho0 (below_size HB.out)); have n2_ := Aside0.mk (below_step HB.out hb); clear HO9 HB ho0 hb; have HO9 := n0_; have HMV := n1_; have HB := n2_; clear n0_ n1_ n2_))
            have hD := blk_below HDF.out HB.out
            refine ⟨by simp, .inl ⟨_, _, rfl, run_takeDeferred hD, ?_⟩⟩
            refine ⟨_, results_tmp2 rfl _ _ _, ?_⟩
            have hg := grownBy_putObj' w9 w6.heap.size (.deferred none)
            have hst : ∀ k_, W8.heap.size ≤ k_ → k_ < w9.heap.size → (w9.putObj w6.heap.size (.deferred none)).heap[k_]? = w9.heap[k_]? := fun k_ h_ h2_ => hg.block k_ h2_ (by intro e; have := Option.some.inj e; omega)
            have hS := Kd.S_lower (Kd.S_step (Kd.S_mono (Kd.S_bound HO9.out) (ok' := fun k_ => W8.heap.size ≤ k_ ∧ some k_ ≠ mv.ownBlock) (fun k_ h_ => ⟨h_.2.1, h_.1.2⟩)) (fun k_ h_ => hst k_ h_.1)) HB8.out.size
            have hR := Kd.R_lower (Kd.R_step (Kd.R_mono (Kd.R_bound HMV.out) (ok' := fun k_ => W8.heap.size ≤ k_) (fun k_ h_ => h_.2.1)) (fun k_ h_ => hst k_ h_)) HB8.out.size
            refine ⟨_, _, rfl, Kd.S_mono hS (fun _ h_ => h_.2), Kd.R_mono hR (fun _ _ => trivial), ?_⟩
            exact (below_then HB8.out HB8.out.size HB.out).grown hg (by have h1 := HB8.out.size; have h2 := HB.out.size; omega) (fun k_ e => by cases e; exact HGD.out)
    · rw [if_neg hl] at H
      exact absurd H (by simp)
end Go.Proofs.Yteeakklnlcjgbaa.P

end
