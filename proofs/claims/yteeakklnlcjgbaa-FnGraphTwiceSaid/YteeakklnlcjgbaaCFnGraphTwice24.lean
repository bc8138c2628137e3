/- A part of the claim FnGraphTwice: texts of this session and texts that its program printed out of the translation, joined. -/
import Derived.Test.YteeakklnlcjgbaaCFnGraphTwice22
import Derived.Test.YteeakklnlcjgbaaCFnGraphTwice23
import Derived.Test.YteeakklnlcjgbaaCFnGraphTwice0
import Derived.Test.YteeakklnlcjgbaaCFnGraphTwice1
import Derived.Test.YteeakklnlcjgbaaCFnGraphTwice2
import Derived.Test.YteeakklnlcjgbaaCFnGraphTwice3
import Derived.Test.YteeakklnlcjgbaaCFnGraphTwice4
import Derived.Test.YteeakklnlcjgbaaCFnGraphTwice5
import Derived.Test.YteeakklnlcjgbaaCFnGraphTwice6
import Derived.Test.YteeakklnlcjgbaaCFnGraphTwice7
import Derived.Test.YteeakklnlcjgbaaCFnGraphTwice8
import Derived.Test.YteeakklnlcjgbaaCFnGraphTwice9
import Derived.Test.YteeakklnlcjgbaaCFnGraphTwice10
import Derived.Test.YteeakklnlcjgbaaCFnGraphTwice11
import Derived.Test.YteeakklnlcjgbaaCFnGraphTwice12
import Derived.Test.YteeakklnlcjgbaaCFnGraphTwice13
import Derived.Test.YteeakklnlcjgbaaCFnGraphTwice14
import Derived.Test.YteeakklnlcjgbaaCFnGraphTwice15
import Derived.Test.YteeakklnlcjgbaaCFnGraphTwice16
import Derived.Test.YteeakklnlcjgbaaCFnGraphTwice17
import Derived.Test.YteeakklnlcjgbaaCFnGraphTwice18
import Derived.Test.YteeakklnlcjgbaaCFnGraphTwice19
import Derived.Test.YteeakklnlcjgbaaCFnGraphTwice20
import Derived.Test.YteeakklnlcjgbaaCFnGraphTwice21
section

namespace Go.Proofs.Yteeakklnlcjgbaa.P
open Go.RowKit Go.Proofs.YteeakklnlcjgbaaW.PrintWords Go.Proofs.YteeakklnlcjgbaaW.PrintLast Go.Proofs.YteeakklnlcjgbaaW.PrintMore
attribute [local go_sem] max2_int min2_int max_two min_two max_three min_three max_four min_four
set_option linter.unusedVariables false
set_option linter.unusedSimpArgs false
set_option maxHeartbeats 8000000 in
set_option maxRecDepth 100000 in
theorem spec_HeapOk.calls (k : Nat) (A0 : Option Addr) (c0 : Nat) (l0 : List (S48)) (A1 : Option Addr) (c1 : Nat) (l1 : List (S46)) (r : Bool) (w : World) (hr0 : Kd.C k48 w A0 l0.length l0) (hc0 : l0.length ≤ c0) (hr1 : Kd.C k46 w A1 l1.length l1) (hc1 : l1.length ≤ c1) (h : spec_HeapOk.f k l0 l1 = some r) :
    Calls Try.prog 17 #[.slice A0 l0.length c0, .slice A1 l1.length c1] w fun e w' => e = .returned (.bool r) ∧ Below w.heap.size w w' := by
  have hu46 := Try.underlying46
  have HR0 := Aside0.mk hr0
  have HC0 := Aside0.mk hc0
  clear hr0 hc0
  have HR1 := Aside0.mk hr1
  have HC1 := Aside0.mk hc1
  clear hr1 hc1
  have HB := Aside0.mk (Below.refl w.heap.size w)
  have H : (spec_HeapOk.l0 k l0 l1 0) = some r := h
  clear h
  have H' := Aside0.mk H
  clear H
  go_enter Try.func17, Try.ntmps17
  go_wp2
  go_loopg [5] k (fun kq v5 w' => ∃ (x5_1 : Int), v5 = .int .i64 x5_1 ∧ Aside0 (spec_HeapOk.l0 kq l0 l1 x5_1 = some r) ∧ Aside0 (kq ≤ k) ∧ Aside0 (Below w.heap.size w w'))
  case atStart => exact ⟨(0), (by first | rfl | (simp; done) | (simp [*]; done)), H', ⟨Nat.le_refl _⟩, ⟨by repeat (first | (with_reducible first | exact HB.out | apply below_alloc | apply pw_below_drewN | apply below_drew1) | exact HB.out)⟩⟩
  case round =>
    clear H'
    try clear c1
    try clear p2
    obtain ⟨x5_1, rfl, HA, HK1, HB⟩ := hrel
    cases gk with
    | zero => exact absurd HA.out (by simp [spec_HeapOk.l0])
    | succ k1 =>
      have H := HA.out
      clear HA
      simp only [spec_HeapOk.l0] at H
      by_cases c3 : x5_1 < (l1.length : Int)
      · rw [if_pos c3] at H
        have c3b0 : decide (x5_1 < (l1.length : Int)) = true := decide_eq_true c3
        clear c3
        by_cases c4 : 0 ≤ x5_1
        · rw [if_pos c4] at H
          have c4b0 : decide (0 ≤ x5_1) = true := decide_eq_true c4
          clear c4
          replace H := Option.bind_eq_some_iff.mp H
          obtain ⟨t141, A50, H⟩ := H
          replace H : (if t141 = true then (spec_HeapOk.l0 k1 l0 l1 (wrap64 (x5_1 + 1))) else (some false)) = some r := H
          have A5 := Aside0.mk A50
          clear A50
          by_cases c6 : t141 = true
          · subst c6
            have H1 : (spec_HeapOk.l0 k1 l0 l1 (wrap64 (x5_1 + 1))) = some r := by rw [if_pos rfl] at H; exact H
            clear H
            have H := H1
            clear H1
            have H' := Aside0.mk H
            clear H
            have p140 : 0 ≤ (x5_1 : Int) := of_decide_eq_true (by first | (with_reducible assumption) | assumption)
            have q140 : x5_1 < (l1.length : Int) := of_decide_eq_true (by first | (with_reducible assumption) | assumption)
            obtain ⟨ad140, e140, hx140_0, hx140_1⟩ := at_T46 HR1.out x5_1 p140 q140
            cases e140
            replace hx140_0 := (HB.out.cell (World.block_lt_of_cell? w _ hx140_0)).trans hx140_0
            replace hx140_1 := (HB.out.cell (World.block_lt_of_cell? w _ hx140_1)).trans hx140_1
            replace p140 := eq_true p140
            replace q140 := eq_true q140
            go_wp2_with (first | ((with_reducible refine gate_callee (f := 36) rfl ?_); refine goesL_ (some 20) rfl rfl Try.func36 (by kernel_rfl) rfl #[.agg #[.bool ((rd_T46 l1 x5_1).f0), .int .i64 ((rd_T46 l1 x5_1).f1)], .int .i64 (l0.length : Int)] rfl (by (try simp only [List.map_toArray, List.map_cons, List.map_nil]); first | done | rfl | (simp only [List.length_drop, List.length_take]; rfl)) ?_; (with_reducible refine (spec_l12Val.calls ((rd_T46 l1 x5_1).f0) ((rd_T46 l1 x5_1).f1) (l0.length : Int) true _ A5.out).mono ?_); rintro e w7 ⟨rfl, hb⟩; refine ⟨_, rfl, ?_⟩; have n0_ := Aside0.mk (below_step (by repeat (first | (with_reducible first | exact HB.out | apply below_alloc | apply pw_below_drewN | apply below_drew1) | exact HB.out)) hb); clear HB; have HB := n0_; clear n0_; (try clear hb); (try clear hb2); (try clear hk); (try clear hi)))
            go_roundg k1
            case measure => have := HK1.out; omega
            case rel => exact ⟨(wrap64 (x5_1 + 1)), (by first | rfl | (simp; done) | (simp [*]; done)), H', ⟨by have := HK1.out; omega⟩, ⟨by repeat (first | (with_reducible first | exact HB.out | apply below_alloc | apply pw_below_drewN | apply below_drew1) | exact HB.out)⟩⟩
          · replace c6 := Bool.eq_false_iff.mpr c6
            subst c6
            have H1 : (some false) = some r := by rw [if_neg (show ¬ (false = true) by decide)] at H; exact H
            clear H
            have H := H1
            clear H1
            obtain rfl := Option.some.inj H
            simp only [Option.some.injEq, Prod.mk.injEq] at H
            obtain ⟨rfl⟩ := H
            have p140 : 0 ≤ (x5_1 : Int) := of_decide_eq_true (by first | (with_reducible assumption) | assumption)
            have q140 : x5_1 < (l1.length : Int) := of_decide_eq_true (by first | (with_reducible assumption) | assumption)
            obtain ⟨ad140, e140, hx140_0, hx140_1⟩ := at_T46 HR1.out x5_1 p140 q140
            cases e140
            replace hx140_0 := (HB.out.cell (World.block_lt_of_cell? w _ hx140_0)).trans hx140_0
            replace hx140_1 := (HB.out.cell (World.block_lt_of_cell? w _ hx140_1)).trans hx140_1
            replace p140 := eq_true p140
            replace q140 := eq_true q140
            go_wp2_with (first | ((with_reducible refine gate_callee (f := 36) rfl ?_); refine goesL_ (some 20) rfl rfl Try.func36 (by kernel_rfl) rfl #[.agg #[.bool ((rd_T46 l1 x5_1).f0), .int .i64 ((rd_T46 l1 x5_1).f1)], .int .i64 (l0.length : Int)] rfl (by (try simp only [List.map_toArray, List.map_cons, List.map_nil]); first | done | rfl | (simp only [List.length_drop, List.length_take]; rfl)) ?_; (with_reducible refine (spec_l12Val.calls ((rd_T46 l1 x5_1).f0) ((rd_T46 l1 x5_1).f1) (l0.length : Int) false _ A5.out).mono ?_); rintro e w8 ⟨rfl, hb⟩; refine ⟨_, rfl, ?_⟩; have n0_ := Aside0.mk (below_step (by repeat (first | (with_reducible first | exact HB.out | apply below_alloc | apply pw_below_drewN | apply below_drew1) | exact HB.out)) hb); clear HB; have HB := n0_; clear n0_; (try clear hb); (try clear hb2); (try clear hk); (try clear hi)))
            go_ret
            exact ⟨by first | rfl | (simp [errW_none, errW_some] <;> rfl) | (simp [*, errW_none, errW_some] <;> rfl), by repeat (first | (with_reducible first | exact HB.out | apply below_alloc | apply pw_below_drewN | apply below_drew1) | exact HB.out)⟩
        · rw [if_neg c4] at H
          exact absurd H (by simp)
      · rw [if_neg c3] at H
        have c3b0 : decide (x5_1 < (l1.length : Int)) = false := decide_eq_false c3
        clear c3
        have H' := Aside0.mk H
        clear H
        go_wp2
        go_loopg [6] k1 (fun kq v6 w' => ∃ (x6_2 : Int), v6 = .int .i64 x6_2 ∧ Aside0 (spec_HeapOk.l1 kq l0 x6_2 = some r) ∧ Aside0 (kq ≤ k1) ∧ Aside0 (Below w.heap.size w w'))
        case atStart => exact ⟨(0), (by first | rfl | (simp; done) | (simp [*]; done)), H', ⟨Nat.le_refl _⟩, ⟨by repeat (first | (with_reducible first | exact HB.out | apply below_alloc | apply pw_below_drewN | apply below_drew1) | exact HB.out)⟩⟩
        case round =>
          clear H'
          try clear c1
          try clear p1
          try clear q1
          try clear hx1
          try clear p2
          try clear c3
          try clear c3b0
          try clear c4
          try clear c4b0
          try clear c6
          try clear p6
          try clear hx140_0
          try clear hx140_1
          try clear p140
          try clear p2
          try clear q140
          obtain ⟨x6_2, rfl, HA, HK2, HB⟩ := hrel
          cases gk with
          | zero => exact absurd HA.out (by simp [spec_HeapOk.l1])
          | succ k2 =>
            have H := HA.out
            clear HA
            simp only [spec_HeapOk.l1] at H
            by_cases c9 : x6_2 < (l0.length : Int)
            · rw [if_pos c9] at H
              have c9b0 : decide (x6_2 < (l0.length : Int)) = true := decide_eq_true c9
              clear c9
              have H' := Aside0.mk H
              clear H
              go_wp2
              go_loopg [7] k2 (fun kq v7 w' => ∃ (x7_3 : Int), v7 = .int .i64 x7_3 ∧ Aside0 (spec_HeapOk.l2 kq l0 x6_2 x7_3 = some r) ∧ Aside0 (kq ≤ k2) ∧ Aside0 (Below w.heap.size w w'))
              case atStart => exact ⟨(0), (by first | rfl | (simp; done) | (simp [*]; done)), H', ⟨Nat.le_refl _⟩, ⟨by repeat (first | (with_reducible first | exact HB.out | apply below_alloc | apply pw_below_drewN | apply below_drew1) | exact HB.out)⟩⟩
              case round =>
                clear H'
                try clear c1
                try clear p1
                try clear q1
                try clear hx1
                try clear p2
                try clear c3
                try clear c3b0
                try clear c4
                try clear c4b0
                try clear c6
                try clear p6
                try clear c9
                try clear c9b0
                try clear hx140_0
                try clear hx140_1
                try clear p1
                try clear p140
                try clear p2
                try clear p6
                try clear q1
                try clear q140
                obtain ⟨x7_3, rfl, HA, HK3, HB⟩ := hrel
                cases gk with
                | zero => exact absurd HA.out (by simp [spec_HeapOk.l2])
                | succ k3 =>
                  have H := HA.out
                  clear HA
                  simp only [spec_HeapOk.l2] at H
                  by_cases c10 : 0 ≤ x6_2
                  · rw [if_pos c10] at H
                    have c10b0 : decide (0 ≤ x6_2) = true := decide_eq_true c10
                    clear c10
                    by_cases c11 : x6_2 < (l0.length : Int)
                    · rw [if_pos c11] at H
                      have c11b0 : decide (x6_2 < (l0.length : Int)) = true := decide_eq_true c11
                      clear c11
                      by_cases c12 : x7_3 < (((rd_T48 l0 x6_2).f1).length : Int)
                      · rw [if_pos c12] at H
                        have c12b0 : decide (x7_3 < (((rd_T48 l0 x6_2).f1).length : Int)) = true := decide_eq_true c12
                        clear c12
                        by_cases c13 : 0 ≤ x7_3
                        · rw [if_pos c13] at H
                          have c13b0 : decide (0 ≤ x7_3) = true := decide_eq_true c13
                          clear c13
                          replace H := Option.bind_eq_some_iff.mp H
                          obtain ⟨t145, A140, H⟩ := H
                          replace H : (if t145 = true then (spec_HeapOk.l2 k3 l0 x6_2 (wrap64 (x7_3 + 1))) else (some false)) = some r := H
                          have A14 := Aside0.mk A140
                          clear A140
                          by_cases c15 : t145 = true
                          · subst c15
                            have H1 : (spec_HeapOk.l2 k3 l0 x6_2 (wrap64 (x7_3 + 1))) = some r := by rw [if_pos rfl] at H; exact H
                            clear H
                            have H := H1
                            clear H1
                            have H' := Aside0.mk H
                            clear H
                            have p142 : 0 ≤ (x6_2 : Int) := of_decide_eq_true (by first | (with_reducible assumption) | assumption)
                            have q142 : x6_2 < (l0.length : Int) := of_decide_eq_true (by first | (with_reducible assumption) | assumption)
                            obtain ⟨ad142, A142_1, c142_1, e142, hx142_0, hx142_1, hl142_1, hi142_1⟩ := at_T48 HR0.out x6_2 p142 q142
                            cases e142
                            replace hx142_0 := (HB.out.cell (World.block_lt_of_cell? w _ hx142_0)).trans hx142_0
                            replace hx142_1 := (HB.out.cell (World.block_lt_of_cell? w _ hx142_1)).trans hx142_1
                            have HR142_1 := Aside0.mk hi142_1
                            have HC142_1 := Aside0.mk hl142_1
                            clear hi142_1 hl142_1
                            replace p142 := eq_true p142
                            replace q142 := eq_true q142
                            have p143 : 0 ≤ (x6_2 : Int) := of_decide_eq_true (by first | (with_reducible assumption) | assumption)
                            have q143 : x6_2 < (l0.length : Int) := of_decide_eq_true (by first | (with_reducible assumption) | assumption)
                            obtain ⟨ad143, A143_1, c143_1, e143, hx143_0, hx143_1, hl143_1, hi143_1⟩ := at_T48 HR0.out x6_2 p143 q143
                            obtain rfl : ad142 = ad143 := (by injection e143)
                            replace hx143_0 := (HB.out.cell (World.block_lt_of_cell? w _ hx143_0)).trans hx143_0
                            replace hx143_1 := (HB.out.cell (World.block_lt_of_cell? w _ hx143_1)).trans hx143_1
                            have HR143_1 := Aside0.mk hi143_1
                            have HC143_1 := Aside0.mk hl143_1
                            clear hi143_1 hl143_1
                            replace p143 := eq_true p143
                            replace q143 := eq_true q143
                            have ea_ := Option.some.inj (hx142_1.symm.trans hx143_1)
                            injection ea_ with ea_ en_ ec_
                            subst ea_
                            subst ec_
                            clear en_
                            have p144 : 0 ≤ (x7_3 : Int) := of_decide_eq_true (by first | (with_reducible assumption) | assumption)
                            have q144 : x7_3 < (((rd_T48 l0 x6_2).f1).length : Int) := of_decide_eq_true (by first | (with_reducible assumption) | assumption)
                            obtain ⟨ad144, e144, hx144_0, hx144_1⟩ := at_T46 HR143_1.out x7_3 p144 q144
                            cases e144
                            replace hx144_0 := (HB.out.cell (World.block_lt_of_cell? w _ hx144_0)).trans hx144_0
                            replace hx144_1 := (HB.out.cell (World.block_lt_of_cell? w _ hx144_1)).trans hx144_1
                            replace p144 := eq_true p144
                            replace q144 := eq_true q144
                            go_wp2_with (first | ((with_reducible refine gate_callee (f := 36) rfl ?_); refine goesL_ (some 48) rfl rfl Try.func36 (by kernel_rfl) rfl #[.agg #[.bool ((rd_T46 ((rd_T48 l0 x6_2).f1) x7_3).f0), .int .i64 ((rd_T46 ((rd_T48 l0 x6_2).f1) x7_3).f1)], .int .i64 (l0.length : Int)] rfl (by (try simp only [List.map_toArray, List.map_cons, List.map_nil]); first | done | rfl | (simp only [List.length_drop, List.length_take]; rfl)) ?_; (with_reducible refine (spec_l12Val.calls ((rd_T46 ((rd_T48 l0 x6_2).f1) x7_3).f0) ((rd_T46 ((rd_T48 l0 x6_2).f1) x7_3).f1) (l0.length : Int) true _ A14.out).mono ?_); rintro e w16 ⟨rfl, hb⟩; refine ⟨_, rfl, ?_⟩; have n0_ := Aside0.mk (below_step (by repeat (first | (with_reducible first | exact HB.out | apply below_alloc | apply pw_below_drewN | apply below_drew1) | exact HB.out)) hb); clear HB; have HB := n0_; clear n0_; (try clear hb); (try clear hb2); (try clear hk); (try clear hi)))
                            go_roundg k3
                            case measure => have := HK1.out; have := HK2.out; have := HK3.out; omega
                            case rel => exact ⟨(wrap64 (x7_3 + 1)), (by first | rfl | (simp; done) | (simp [*]; done)), H', ⟨by have := HK1.out; have := HK2.out; have := HK3.out; omega⟩, ⟨by repeat (first | (with_reducible first | exact HB.out | apply below_alloc | apply pw_below_drewN | apply below_drew1) | exact HB.out)⟩⟩
                          · replace c15 := Bool.eq_false_iff.mpr c15
                            subst c15
                            have H1 : (some false) = some r := by rw [if_neg (show ¬ (false = true) by decide)] at H; exact H
                            clear H
                            have H := H1
                            clear H1
                            obtain rfl := Option.some.inj H
                            simp only [Option.some.injEq, Prod.mk.injEq] at H
                            obtain ⟨rfl⟩ := H
                            have p142 : 0 ≤ (x6_2 : Int) := of_decide_eq_true (by first | (with_reducible assumption) | assumption)
                            have q142 : x6_2 < (l0.length : Int) := of_decide_eq_true (by first | (with_reducible assumption) | assumption)
                            obtain ⟨ad142, A142_1, c142_1, e142, hx142_0, hx142_1, hl142_1, hi142_1⟩ := at_T48 HR0.out x6_2 p142 q142
                            cases e142
                            replace hx142_0 := (HB.out.cell (World.block_lt_of_cell? w _ hx142_0)).trans hx142_0
                            replace hx142_1 := (HB.out.cell (World.block_lt_of_cell? w _ hx142_1)).trans hx142_1
                            have HR142_1 := Aside0.mk hi142_1
                            have HC142_1 := Aside0.mk hl142_1
                            clear hi142_1 hl142_1
                            replace p142 := eq_true p142
                            replace q142 := eq_true q142
                            have p143 : 0 ≤ (x6_2 : Int) := of_decide_eq_true (by first | (with_reducible assumption) | assumption)
                            have q143 : x6_2 < (l0.length : Int) := of_decide_eq_true (by first | (with_reducible assumption) | assumption)
                            obtain ⟨ad143, A143_1, c143_1, e143, hx143_0, hx143_1, hl143_1, hi143_1⟩ := at_T48 HR0.out x6_2 p143 q143
                            obtain rfl : ad142 = ad143 := (by injection e143)
                            replace hx143_0 := (HB.out.cell (World.block_lt_of_cell? w _ hx143_0)).trans hx143_0
                            replace hx143_1 := (HB.out.cell (World.block_lt_of_cell? w _ hx143_1)).trans hx143_1
                            have HR143_1 := Aside0.mk hi143_1
                            have HC143_1 := Aside0.mk hl143_1
                            clear hi143_1 hl143_1
                            replace p143 := eq_true p143
                            replace q143 := eq_true q143
                            have ea_ := Option.some.inj (hx142_1.symm.trans hx143_1)
                            injection ea_ with ea_ en_ ec_
                            subst ea_
                            subst ec_
                            clear en_
                            have p144 : 0 ≤ (x7_3 : Int) := of_decide_eq_true (by first | (with_reducible assumption) | assumption)
                            have q144 : x7_3 < (((rd_T48 l0 x6_2).f1).length : Int) := of_decide_eq_true (by first | (with_reducible assumption) | assumption)
                            obtain ⟨ad144, e144, hx144_0, hx144_1⟩ := at_T46 HR143_1.out x7_3 p144 q144
                            cases e144
                            replace hx144_0 := (HB.out.cell (World.block_lt_of_cell? w _ hx144_0)).trans hx144_0
                            replace hx144_1 := (HB.out.cell (World.block_lt_of_cell? w _ hx144_1)).trans hx144_1
                            replace p144 := eq_true p144
                            replace q144 := eq_true q144
                            go_wp2_with (first | ((with_reducible refine gate_callee (f := 36) rfl ?_); refine goesL_ (some 48) rfl rfl Try.func36 (by kernel_rfl) rfl #[.agg #[.bool ((rd_T46 ((rd_T48 l0 x6_2).f1) x7_3).f0), .int .i64 ((rd_T46 ((rd_T48 l0 x6_2).f1) x7_3).f1)], .int .i64 (l0.length : Int)] rfl (by (try simp only [List.map_toArray, List.map_cons, List.map_nil]); first | done | rfl | (simp only [List.length_drop, List.length_take]; rfl)) ?_; (with_reducible refine (spec_l12Val.calls ((rd_T46 ((rd_T48 l0 x6_2).f1) x7_3).f0) ((rd_T46 ((rd_T48 l0 x6_2).f1) x7_3).f1) (l0.length : Int) false _ A14.out).mono ?_); rintro e w17 ⟨rfl, hb⟩; refine ⟨_, rfl, ?_⟩; have n0_ := Aside0.mk (below_step (by repeat (first | (with_reducible first | exact HB.out | apply below_alloc | apply pw_below_drewN | apply below_drew1) | exact HB.out)) hb); clear HB; have HB := n0_; clear n0_; (try clear hb); (try clear hb2); (try clear hk); (try clear hi)))
                            go_ret
                            exact ⟨by first | rfl | (simp [errW_none, errW_some] <;> rfl) | (simp [*, errW_none, errW_some] <;> rfl), by repeat (first | (with_reducible first | exact HB.out | apply below_alloc | apply pw_below_drewN | apply below_drew1) | exact HB.out)⟩
                        · rw [if_neg c13] at H
                          exact absurd H (by simp)
                      · rw [if_neg c12] at H
                        have c12b0 : decide (x7_3 < (((rd_T48 l0 x6_2).f1).length : Int)) = false := decide_eq_false c12
                        clear c12
                        have H' := Aside0.mk H
                        clear H
                        have p142 : 0 ≤ (x6_2 : Int) := of_decide_eq_true (by first | (with_reducible assumption) | assumption)
                        have q142 : x6_2 < (l0.length : Int) := of_decide_eq_true (by first | (with_reducible assumption) | assumption)
                        obtain ⟨ad142, A142_1, c142_1, e142, hx142_0, hx142_1, hl142_1, hi142_1⟩ := at_T48 HR0.out x6_2 p142 q142
                        cases e142
                        replace hx142_0 := (HB.out.cell (World.block_lt_of_cell? w _ hx142_0)).trans hx142_0
                        replace hx142_1 := (HB.out.cell (World.block_lt_of_cell? w _ hx142_1)).trans hx142_1
                        have HR142_1 := Aside0.mk hi142_1
                        have HC142_1 := Aside0.mk hl142_1
                        clear hi142_1 hl142_1
                        replace p142 := eq_true p142
                        replace q142 := eq_true q142
                        go_wp2
                        go_roundg k3
                        case measure => have := HK1.out; have := HK2.out; have := HK3.out; omega
                        case rel => exact ⟨(wrap64 (x6_2 + 1)), (by first | rfl | (simp; done) | (simp [*]; done)), H', ⟨by have := HK1.out; have := HK2.out; have := HK3.out; omega⟩, ⟨by repeat (first | (with_reducible first | exact HB.out | apply below_alloc | apply pw_below_drewN | apply below_drew1) | exact HB.out)⟩⟩
                    · rw [if_neg c11] at H
                      exact absurd H (by simp)
                  · rw [if_neg c10] at H
                    exact absurd H (by simp)
            · rw [if_neg c9] at H
              have c9b0 : decide (x6_2 < (l0.length : Int)) = false := decide_eq_false c9
              clear c9
              obtain rfl := Option.some.inj H
              simp only [Option.some.injEq, Prod.mk.injEq] at H
              obtain ⟨rfl⟩ := H
              go_wp2
              go_ret
              exact ⟨by first | rfl | (simp [errW_none, errW_some] <;> rfl) | (simp [*, errW_none, errW_some] <;> rfl), by repeat (first | (with_reducible first | exact HB.out | apply below_alloc | apply pw_below_drewN | apply below_drew1) | exact HB.out)⟩
end Go.Proofs.Yteeakklnlcjgbaa.P

end
section

namespace Go.Proofs.Yteeakklnlcjgbaa.P
open Go Go.RowKit Go.Proofs.YteeakklnlcjgbaaW.PrintWords Go.Proofs.YteeakklnlcjgbaaW.PrintLast Go.Proofs.YteeakklnlcjgbaaW.PrintMore
attribute [local go_sem] max2_int min2_int max_two min_two max_three min_three max_four min_four
set_option linter.unusedVariables false
set_option linter.unusedSimpArgs false
structure GB (w0 : World) (a : GA) (oq oc : List Int) (vq vo : Value) (w : World) : Prop where
  i : GI w0.heap.size a oq oq vq w
  c : GC w0.heap.size a oc oc vo w
  x : GX vq vo
  b : Below w0.heap.size w0 w
def GRound (w0 : World) (a : GA) : Prop := ∀ (o : List Int) (m : Int) (vq vo : Value) (W : World), GB w0 a (o ++ [m]) o vq vo W → 0 ≤ m → m < (a.N : Int) → m ∉ o → o.length < 8796093022208 →
  YieldAt Fence.wide 0 Try.prog a.L #[.int .i64 m] W fun e W' => e = .returned (.bool true) ∧ ∃ vo', GB w0 a (o ++ [m]) (o ++ [m]) vq vo' W'
theorem wp_world {P : Program} {c : Code} {Q : Exit → Act → World → Prop} {a : Act} {w : World} (Pr : World → Prop) (h : Pr w) (k : ∀ w', Pr w' → c.wp P Q a w') : c.wp P Q a w := k w h
theorem GB.below {w0 : World} {a : GA} {oq oc : List Int} {vq vo : Value} {w w' : World} (h : GB w0 a oq oc vq vo w) (hb : Below w.heap.size w w') : GB w0 a oq oc vq vo w' := by
  have hg : w.grownBy w' none := ⟨hb.os, hb.tape, hb.output, hb.size, fun k hk _ => hb.block k hk⟩
  exact ⟨h.i.kept hg (fun r e => by cases e), h.c.kept hg (fun r e => by cases e), h.x, below_then h.b h.b.size hb⟩
set_option maxHeartbeats 8000000 in
set_option maxRecDepth 100000 in
theorem reach_come.calls (k : Nat) (w0 : World) (a : GA) (hR : GRound w0 a) (A0 : Option Addr) (c0 : Nat) (l0 : List GVal) (hr0 : Kd.C k46 w0 A0 l0.length l0) (hc0 : l0.length ≤ c0) (o r : List Int) (vq vo : Value) (w : World)
    (hG : GB w0 a o o vq vo w) (h : g_comes k a.N l0 0 o = some r) :
    Calls Try.prog 51 #[.slice A0 l0.length c0, .pointer (some ⟨a.bs, 0, none⟩), .pointer (some ⟨a.bq, 0, none⟩), .pointer (some ⟨a.bj, 0, none⟩)] w fun e w' => e = .returned (.bool true) ∧ ∃ vq' vo', GB w0 a r r vq' vo' w' := by
  have HR0 := Aside0.mk hr0
  have HC0 := Aside0.mk hc0
  clear hr0 hc0
  have HR := Aside0.mk hR
  have HG := Aside0.mk hG
  have H' := Aside0.mk h
  clear h hG hR
  go_enter Try.func51, Try.ntmps51
  go_wp2
  go_loopg [10] k (fun kq v10 w' => ∃ (x10 : Int) (o1 : List Int) (vq1 vo1 : Value), v10 = .int .i64 x10 ∧ Aside0 (g_comes kq a.N l0 x10 o1 = some r) ∧ Aside0 (kq ≤ k) ∧ Aside0 (GB w0 a o1 o1 vq1 vo1 w'))
  case atStart => exact ⟨0, o, vq, vo, rfl, H', ⟨Nat.le_refl _⟩, HG⟩
  case round =>
    clear H' HG
    obtain ⟨x10, o1, vq1, vo1, rfl, HA, HK1, HG⟩ := hrel
    cases gk with
    | zero => exact absurd HA.out (by simp [g_comes])
    | succ k1 =>
      have H := HA.out
      clear HA
      rw [g_comes] at H
      by_cases c3 : x10 < (l0.length : Int)
      · rw [if_pos c3] at H
        have c3b0 : decide (x10 < (l0.length : Int)) = true := decide_eq_true c3
        by_cases c4 : 0 ≤ x10
        · rw [if_pos c4] at H
          have c4b0 : decide (0 ≤ x10) = true := decide_eq_true c4
          replace H := Option.bind_eq_some_iff.mp H
          obtain ⟨o2, HS, H⟩ := H
          obtain ⟨ad, e, hx0, hx1⟩ := at_T46 HR0.out x10 c4 c3
          cases e
          replace hx0 := (HG.out.b.cell (World.block_lt_of_cell? w0 _ hx0)).trans hx0
          replace hx1 := (HG.out.b.cell (World.block_lt_of_cell? w0 _ hx1)).trans hx1
          replace c3 := eq_true c3
          replace c4 := eq_true c4
          obtain ⟨y, hy⟩ : ∃ y_, y_ = rd_T46 l0 x10 := ⟨_, rfl⟩
          rw [← hy] at hx0 hx1 HS
          obtain ⟨b, n⟩ := y
          dsimp only at hx0 hx1
          simp only [g_step] at HS
          clear hy
          have H' := Aside0.mk H
          clear H
          by_cases hb : b = true
          · subst hb
            rw [if_pos rfl] at HS
            go_upto_region 4 with fail
            refine wp_world (fun W => Aside0 (GB w0 a o1 o1 vq1 vo1 W) ∧ W.heap[wr.heap.size]? = some (.cells #[.bool true, .int .i64 n] 46 (0, 0))) ?_ ?_
            · refine ⟨⟨HG.out.below (by repeat (first | exact Below.refl _ _ | apply below_alloc | refine below_set ?_ (Nat.le_refl _)))⟩, ?_⟩
              exact blk_new _ _
            clear HG hx0 hx1
            rintro w1 ⟨HG, hbk⟩
            have hc0 := (blk_cell hbk 0).trans rfl
            have hc1 := (blk_cell hbk 1).trans rfl
            have hf0 := blk_frozen hbk 0
            have hf1 := blk_frozen hbk 1
            by_cases hn : n = 0
            · subst hn
              rw [if_pos rfl] at HS
              obtain rfl := Option.some.inj HS
              clear HS
              go_wp2
              go_roundg k1
              case measure => have := HK1.out; omega
              case rel => exact ⟨wrap64 (x10 + 1), o1, vq1, vo1, rfl, H', ⟨by have := HK1.out; omega⟩, HG⟩
            · rw [if_neg hn] at HS
              have hnb : decide (n = 0) = false := decide_eq_false hn
              by_cases hr : 0 ≤ n ∧ n < (a.N : Int)
              · rw [if_pos hr] at HS
                obtain ⟨hn0, hn1⟩ := hr
                have hs0 := (blk_cell HG.out.i.sB 0).trans rfl
                have hs1 := (blk_cell HG.out.i.s n.toNat).trans (show _ = some (Value.bool (decide (n ∈ o1))) by simp [boolV, g_seenL_get hn0 hn1])
                replace hn0 := eq_true hn0
                replace hn1 := eq_true hn1
                by_cases hm : n ∈ o1
                · rw [if_pos hm] at HS
                  obtain rfl := Option.some.inj HS
                  rw [decide_eq_true hm] at hs1
                  clear HS hm
                  go_wp2
                  go_roundg k1
                  case measure => have := HK1.out; omega
                  case rel => exact ⟨wrap64 (x10 + 1), o1, vq1, vo1, rfl, H', ⟨by have := HK1.out; omega⟩, HG⟩
                · rw [if_neg hm] at HS
                  rw [decide_eq_false hm] at hs1
                  by_cases hl : o1.length < 8796093022208
                  · rw [if_pos hl] at HS
                    obtain rfl := Option.some.inj HS
                    clear HS
                    have HM := Aside0.mk hm
                    have HL := Aside0.mk hl
                    clear hm hl
                    have hsf := blk_frozen HG.out.i.s n.toNat
                    go_upto_region 6 with fail
                    have HN := Aside0.mk (of_eq_true hn0)
                    refine wp_world (fun W => Aside0 (GI w0.heap.size a (o1 ++ [n]) o1 vq1 W ∧ GC w0.heap.size a o1 o1 vo1 W ∧ GX vq1 vo1 ∧ Below w0.heap.size w0 W) ∧ W.heap[wr.heap.size]? = some (.cells #[.bool true, .int .i64 n] 46 (0, 0))) ?_ ?_
                    · have h2 := HG.out.i.see HG.out.c HG.out.x HN.out
                      exact ⟨⟨h2.1, h2.2, HG.out.x, HG.out.b.setCell (p := ⟨a.gs, n.toNat, none⟩) HG.out.i.ge.1 _⟩, blk_far hbk (ne_blk hbk HG.out.i.s (cells_ne (by decide))) _⟩
                    clear HG hbk hc0 hc1 hf0 hf1 hs0 hs1 hsf
                    rintro w2 ⟨HG2, hbk⟩
                    have hc0 := (blk_cell hbk 0).trans rfl
                    have hc1 := (blk_cell hbk 1).trans rfl
                    have hq0 := (blk_cell HG2.out.1.qB 0).trans rfl
                    obtain ⟨i0, hi, hz0, hz1, hz2⟩ := info_parts info3
                    go_upto_region 7 with (first | ((with_reducible refine gate_builtin (b := .append) (xs := #[.tmp 33, .tmp 36]) rfl ?_); at_builtin; refine wpList_append_own_at (w := _) rfl (.tmp 33) (.tmp 36) 55 rfl w0.heap.size 3 i0 (.int .i64 0) 1 8 Try.underlying55 hi hz0 hz1 hz2 rfl (by decide) vq1 o1.length (intV o1) rfl (HG2.out.1.q.alloc _) ⟨w2.heap.size, 0, none⟩ 1 1 [.int .i64 n] rfl rfl (cell_one_new _ _ _) (by simp [Value.oneCell']) (by have := HL.out; simp only [maxLen]; omega) (by have := HL.out; omega) (by have := HG2.out.2.2.2.size; simp; omega) ?_; intro v' w3 hown hgrow _ hat; obtain ⟨g', cap', rfl⟩ := ownsRow_succ hown; have HP := Aside0.mk (HG2.out.1.push HG2.out.2.1 HG2.out.2.2.1 hown rfl hgrow hat); have HB3 := Aside0.mk (HG2.out.2.2.2.trans (((Below.refl w0.heap.size w2).alloc HG2.out.2.2.2.size _).grown hgrow (by have := HG2.out.2.2.2.size; simp; omega) (fun b e => (own_lt HG2.out.1.q e).2))); have hb3 := Aside0.mk (blk_grown (blk_alloc hbk _) hgrow (fun e => own_ne HG2.out.1.q hbk (fun _ => cells_ne (by decide)) e.symm)); clear hown hgrow hat hbk hc0 hc1; have hq1 := (blk_cell HP.out.1 0).trans rfl; have hqf := blk_frozen HP.out.1 0))
                    refine wp_world (fun W => Aside0 (GB w0 a (o1 ++ [n]) o1 (.slice (some ⟨g', 0, none⟩) (o1.length + 1) cap') vo1 W) ∧ W.heap[wr.heap.size]? = some (.cells #[.bool true, .int .i64 n] 46 (0, 0))) ?_ ?_
                    · exact ⟨⟨⟨HP.out.2.1, HP.out.2.2.1, HP.out.2.2.2, HB3.out.setCell (p := ⟨a.bq, 0, none⟩) HG2.out.1.ge.2 _⟩⟩, blk_far hb3.out (ne_blk hb3.out HP.out.1 (cells_ne (by decide))) _⟩
                    clear HP HB3 hb3 hq1 hqf HG2 hq0
                    rintro w4 ⟨HG4, hbk⟩
                    have hc1 := (blk_cell hbk 1).trans rfl
                    have hy0 := (blk_cell HG4.out.i.yB 0).trans rfl
                    obtain ⟨fn, tmps, assign, body, hy, hR⟩ := HR.out o1 n _ vo1 w4 HG4.out HN.out (of_eq_true hn1) HM.out HL.out
                    refine (wpIn_wide (n := 1)).1 ?_
                    gi_wp2
                    refine hR.mono ?_
                    clear hR hy HG4
                    rintro e W5 ⟨rfl, vo5, hG5⟩
                    have HG5 := Aside0.mk hG5
                    clear hG5 hbk hc1 hy0
                    gi_wp2
                    go_wp2
                    go_roundg k1
                    case measure => have := HK1.out; omega
                    case rel => exact ⟨wrap64 (x10 + 1), o1 ++ [n], _, vo5, rfl, H', ⟨by have := HK1.out; omega⟩, HG5⟩
                  · rw [if_neg hl] at HS
                    exact absurd HS (by simp)
              · rw [if_neg hr] at HS
                exact absurd HS (by simp)
          · obtain rfl := Bool.eq_false_iff.mpr hb
            rw [if_neg (by simp)] at HS
            obtain rfl := Option.some.inj HS
            clear HS hb
            go_wp2
            go_roundg k1
            case measure => have := HK1.out; omega
            case rel => exact ⟨wrap64 (x10 + 1), o1, vq1, vo1, rfl, H', ⟨by have := HK1.out; omega⟩, ⟨HG.out.below (by repeat (first | exact Below.refl _ _ | apply below_alloc | refine below_set ?_ (Nat.le_refl _)))⟩⟩
        · rw [if_neg c4] at H
          exact absurd H (by simp)
      · rw [if_neg c3] at H
        have c3b0 : decide (x10 < (l0.length : Int)) = false := decide_eq_false c3
        obtain rfl := Option.some.inj H
        clear c3
        go_wp2
        go_ret
        exact ⟨rfl, vq1, vo1, HG.out⟩
end Go.Proofs.Yteeakklnlcjgbaa.P

end
section

namespace Go.Proofs.Yteeakklnlcjgbaa.P
open Go Go.RowKit Go.Proofs.YteeakklnlcjgbaaW.PrintWords Go.Proofs.YteeakklnlcjgbaaW.PrintLast Go.Proofs.YteeakklnlcjgbaaW.PrintMore
attribute [local go_sem] max2_int min2_int max_two min_two max_three min_three max_four min_four
set_option linter.unusedVariables false
set_option linter.unusedSimpArgs false
theorem infoB : (Try.prog.info? 4).map (fun i => (i.zero, i.size, i.bytes)) = some (some (.bool false), 1, 1) := by kernel_rfl
theorem made_one (u : Value) (m : Nat) : madeCells #[u] m = (List.replicate m u).toArray := by
  apply Array.ext
  · simp [madeCells]
  · intro i h1 h2
    simp [madeCells, Nat.mod_one]
theorem made_bool (m : Nat) : madeCells #[.bool false] m = (boolV (g_seenL m [])).toArray := by
  rw [made_one, g_seenL_nil, boolV, List.map_replicate]
theorem made_int (m : Nat) : madeCells #[.int .i64 0] m = (intV (g_toL m [])).toArray := by
  rw [made_one, g_toL_nil, intV, List.map_replicate]
def reach_run.T8 : Bool × List (List Nat × List Nat) := (true, [([], []), ([], []), ([], []), ([], []), ([2, 3], [2, 3]), ([4], [4]), ([5], [5]), ([1, 6], [1, 6]), ([7], [7]), ([8], [8]), ([0, 9], [0, 9]), ([10], [10])])
def reach_run.B8 : List Nat := [0, 0, 0, 0, 12, 28, 60, 126, 254, 510, 1023, 2047]
theorem reach_run.tab8 : rtab .any (opsOf Try.f50 8) = reach_run.T8 := by kernel_rfl
theorem reach_run.bits8 : waitsOk reach_run.T8.2 reach_run.B8 = true := by kernel_rfl
theorem blk_new' {w : World} {o : Obj} {n : Nat} (h : n = w.heap.size) : (w.alloc o).heap[n]? = some o := by subst h; exact blk_new _ _
def GA.at (a : GA) (bs gs bq bj bb : Nat) (vb : Value) : GA := { a with bs := bs, gs := gs, bq := bq, bj := bj, bb := bb, vb := vb }
set_option maxHeartbeats 8000000 in
set_option maxRecDepth 100000 in
theorem reach_run.calls (k : Nat) (w0 : World) (a : GA) (hR : ∀ bs gs bq bj bb vb, GRound w0 (a.at bs gs bq bj bb vb)) (A0 : Option Addr) (c0 : Nat) (l0 : List GObj) (hr0 : Kd.C k48 w0 A0 l0.length l0) (hc0 : l0.length ≤ c0)
    (A1 : Option Addr) (c1 : Nat) (l1 : List GVal) (hr1 : Kd.C k46 w0 A1 l1.length l1) (hc1 : l1.length ≤ c1) (bb br : Nat) (hN : a.N = l0.length + 1) (hl : l0.length + 1 < 8796093022208) (o1 r : List Int) (vo : Value) (w : World)
    (hbb : w.heap[bb]? = some (.cells #[.slice A0 l0.length c0] 33 (0, 0))) (hbr : w.heap[br]? = some (.cells #[.slice A1 l1.length c1] 35 (0, 0)))
    (hC : GC w0.heap.size a [] [] vo w) (hB : Below w0.heap.size w0 w) (h1 : g_comes k (l0.length + 1) l1 0 [] = some o1) (h : g_walk k l0 0 o1 = some r) :
    Calls Try.prog 50 #[.func (.yield a.L) #[] #[], .pointer (some ⟨bb, 0, none⟩), .pointer (some ⟨br, 0, none⟩)] w fun e w' => (∃ v, e = .returned v) ∧ ∃ vo', GC w0.heap.size a r r vo' w' ∧ Below w0.heap.size w0 w' := by
  have HR0 := Aside0.mk hr0
  have HC0 := Aside0.mk hc0
  have HR1 := Aside0.mk hr1
  have HC1 := Aside0.mk hc1
  clear hr0 hc0 hr1 hc1
  have HR := Aside0.mk hR
  have HC := Aside0.mk hC
  have HB := Aside0.mk hB
  have H1 := Aside0.mk h1
  have H' := Aside0.mk h
  clear h h1 hC hB hR
  have HN := Aside0.mk hN
  have HL := Aside0.mk hl
  have hk0 := (blk_cell hbb 0).trans rfl
  have hk1 := (blk_cell hbr 0).trans rfl
  have hwr : wrap64 ((l0.length : Int) + 1) = (l0.length : Int) + 1 := by unfold wrap64; omega
  have hmk : ∀ W : World, (Instr.makeSlice 79 (.int .i64 ((l0.length : Int) + 1)) (.int .i64 ((l0.length : Int) + 1))).run Try.prog W = .ok (.slice (some ⟨W.heap.size, 0, none⟩) (l0.length + 1) (l0.length + 1)) (W.alloc (.cells (boolV (g_seenL (l0.length + 1) [])).toArray 4)) := by
    have h_ := print_make_int (P := Try.prog) 79 4 (.bool false) 1 Try.underlying79 infoB rfl (by decide) ((l0.length + 1 : Nat) : Int) (by omega) (by simp; omega)
    rw [Int.toNat_natCast, made_bool] at h_
    exact h_
  go_enter Try.func50, Try.ntmps50
  go_upto_region 1 with fail
  refine wp_world (fun W => Aside0 (GC w0.heap.size a [] [] vo W ∧ Below w0.heap.size w0 W ∧ W.heap[w.heap.size]? = some (.cells #[.func (.yield a.L) #[] #[]] 24 (0, 0)) ∧ w.heap.size < W.heap.size) ∧ W.heap[bb]? = some (.cells #[.slice A0 l0.length c0] 33 (0, 0)) ∧ W.heap[br]? = some (.cells #[.slice A1 l1.length c1] 35 (0, 0))) ?_ ?_
  · exact ⟨⟨HC.out.alloc _, HB.out.alloc HB.out.size _, blk_new _ _, by simp⟩, blk_alloc hbb _, blk_alloc hbr _⟩
  obtain ⟨bj, hbj⟩ : ∃ b_, b_ = w.heap.size := ⟨_, rfl⟩
  have HJ := Aside0.mk (show w0.heap.size ≤ bj by rw [hbj]; exact HB.out.size)
  rw [← hbj]
  clear HC HB hk0 hk1 hbb hbr hbj
  rintro w1 ⟨HG1, hbb, hbr⟩
  have hk0 := (blk_cell hbb 0).trans rfl
  go_upto_region 3 with fail
  refine wp_world (fun W => Aside0 (GB w0 (a.at (w1.heap.size + 1) w1.heap.size (w1.heap.size + 1 + 1) bj bb (.slice A0 l0.length c0)) [] [] (.slice none 0 0) vo W) ∧ W.heap[br]? = some (.cells #[.slice A1 l1.length c1] 35 (0, 0))) ?_ ?_
  · obtain ⟨hC, hB, hy, hlt⟩ := HG1.out
    refine ⟨⟨⟨?_, ?_, blk_new' (by simp [GA.at]), ⟨by simp [intV], .inl ⟨rfl, rfl⟩⟩, blk_alloc (blk_alloc (blk_alloc hy _) _) _, blk_alloc (blk_alloc (blk_alloc hbb _) _) _, ?_, ?_, by simp [Value.ownBlock]⟩, ?_, fun b h => by simp [Value.ownBlock] at h, ((hB.alloc hB.size _).alloc (by have := hB.size; simp; omega) _).alloc (by have := hB.size; simp; omega) _⟩, blk_alloc (blk_alloc (blk_alloc hbr _) _) _⟩
    · show _ = some (Obj.cells #[.slice (some ⟨w1.heap.size, 0, none⟩) a.N a.N] _ _)
      rw [HN.out]
      exact blk_alloc (blk_new' (by simp [GA.at])) _
    · show _ = some (Obj.cells (boolV (g_seenL a.N [])).toArray _ _)
      rw [HN.out]
      exact blk_alloc (blk_alloc (blk_new _ _) _) _
    · have := hB.size
      exact ⟨by show _ ≤ w1.heap.size; omega, by show _ ≤ w1.heap.size + 1 + 1; omega⟩
    · have h1 := (Array.getElem?_eq_some_iff.1 hC.oB).1
      have h2 := (Array.getElem?_eq_some_iff.1 hC.tB).1
      exact ⟨by show w1.heap.size + 1 + 1 ≠ a.bo; omega, by show w1.heap.size + 1 + 1 ≠ a.bt; omega⟩
    · have hC' := ((hC.alloc (.cells (boolV (g_seenL (l0.length + 1) [])).toArray 4)).alloc (.cells #[Value.slice (some { block := w1.heap.size, off := 0 }) (l0.length + 1) (l0.length + 1)] 79)).alloc (.cells #[Value.slice none 0 0] 55)
      exact ⟨hC'.tB, hC'.t, hC'.oB, hC'.o, hC'.on, hC'.rc, hC'.df, hC'.ge, hC'.ne⟩
  obtain ⟨gs, hgs⟩ : ∃ b_, b_ = w1.heap.size := ⟨_, rfl⟩
  rw [← hgs]
  clear HG1 hbb hbr hk0 hmk hwr hgs
  rintro w2 ⟨HG, hbr⟩
  have hk1 := (blk_cell hbr 0).trans rfl
  go_wp2_with (first | (refine (reach_come.calls k w0 (a.at (gs + 1) gs (gs + 1 + 1) bj bb (.slice A0 l0.length c0)) (HR.out _ _ _ _ _ _) A1 c1 l1 HR1.out HC1.out [] o1 _ vo w2 HG.out (by show g_comes k a.N l1 0 [] = some o1; rw [HN.out]; exact H1.out)).mono ?_; rintro e w3 ⟨rfl, vq3, vo3, hG3⟩; have HG3 := Aside0.mk hG3; clear hG3))
  clear HG hk1 hbr
  go_loopg [7] k (fun kq v7 w' => ∃ (x7 : Int) (o : List Int) (vq vo : Value), v7 = .int .i64 x7 ∧ Aside0 (g_walk kq l0 x7 o = some r) ∧ Aside0 (kq ≤ k) ∧ Aside0 (GB w0 (a.at (gs + 1) gs (gs + 1 + 1) bj bb (.slice A0 l0.length c0)) o o vq vo w'))
  case atStart => exact ⟨0, o1, vq3, vo3, rfl, H', ⟨Nat.le_refl _⟩, HG3⟩
  case round =>
    clear H' HG3 H1
    obtain ⟨x7, o, vq, vo, rfl, HA, HK1, HG⟩ := hrel
    cases gk with
    | zero => exact absurd HA.out (by simp [g_walk])
    | succ k1 =>
      have H := HA.out
      clear HA
      rw [g_walk] at H
      obtain ⟨Aq, cq, rfl, hcq⟩ := own_slice HG.out.i.q
      have hq0 : wr.cell? ⟨gs + 1 + 1, 0, none⟩ = some (.slice Aq o.length cq) := (blk_cell HG.out.i.qB 0).trans rfl
      by_cases c3 : x7 < (o.length : Int)
      · rw [if_pos c3] at H
        have c3b0 : decide (x7 < (o.length : Int)) = true := decide_eq_true c3
        by_cases c4 : 0 ≤ x7 ∧ 0 ≤ wrap64 (rd o x7 - 1) ∧ wrap64 (rd o x7 - 1) < (l0.length : Int)
        · rw [if_pos c4] at H
          obtain ⟨c5, c6, c7⟩ := c4
          replace H := Option.bind_eq_some_iff.mp H
          obtain ⟨o2, A2, H⟩ := H
          have H' := Aside0.mk H
          have HA2 := Aside0.mk A2
          clear H A2
          obtain ⟨gq, rfl, hqe⟩ := own_read HG.out.i.q rfl x7 c5 c3
          obtain ⟨ad, A2, c2, e, hx0, hx1, hl2, hi2⟩ := at_T48 HR0.out (wrap64 (rd o x7 - 1)) c6 c7
          cases e
          have HR2 := Aside0.mk hi2
          have HC2 := Aside0.mk hl2
          clear hl2 hi2 hx0
          replace hx1 := (HG.out.b.cell (World.block_lt_of_cell? w0 _ hx1)).trans hx1
          have hj0 : wr.cell? ⟨bb, 0, none⟩ = some (.slice (some ad) l0.length c0) := (blk_cell HG.out.i.jB 0).trans rfl
          replace c3 := eq_true c3
          replace c5 := eq_true c5
          replace c6 := eq_true c6
          replace c7 := eq_true c7
          go_upto_region 8 with fail
          refine start_ (n := 12) (S := fun w' => w'.cell? ⟨bb, 0, none⟩ = some (.slice (some ad) l0.length c0) ∧ w'.cell? ⟨gs + 1 + 1, 0, none⟩ = some (.slice (some ⟨gq, 0, none⟩) o.length cq) ∧ w'.cell? ⟨gq, x7.toNat, none⟩ = some (.int .i64 (rd o x7)) ∧ w'.cell? ⟨(ad.add ((wrap64 (rd o x7 - 1)).toNat * 2)).block, (ad.add ((wrap64 (rd o x7 - 1)).toNat * 2)).off + 1, none⟩ = some (.slice A2 (rd_T48 l0 (wrap64 (rd o x7 - 1))).f1.length c2)) (ds := [10]) #[false, false, false, false, false, false, false, false, false, false, false, false] (by kernel_rfl) rfl rfl ⟨hj0, hq0, hqe, hx1⟩ (fun hHeld => ?_); refine with_tabW reach_run.tab8 reach_run.bits8 (fun HT_ HW_ => ?_)
          refine pu 0 23 #[true, false, false, false, false, false, false, false, false, false, false, false] HT_ rfl rfl ?_
          refine pu 3 26 #[true, false, false, true, false, false, false, false, false, false, false, false] HT_ rfl rfl ?_
          refine ta 1 24 #[true, true, false, true, false, false, false, false, false, false, false, false] HT_ HW_ hHeld rfl rfl ?_
          refine ta 2 25 #[true, true, true, true, false, false, false, false, false, false, false, false] HT_ HW_ hHeld rfl rfl ?_
          refine pu 4 27 #[true, true, true, true, true, false, false, false, false, false, false, false] HT_ rfl rfl ?_
          refine ta 5 28 #[true, true, true, true, true, true, false, false, false, false, false, false] HT_ HW_ hHeld rfl rfl ?_
          refine pu 6 29 #[true, true, true, true, true, true, true, false, false, false, false, false] HT_ rfl rfl ?_
          refine pu 7 30 #[true, true, true, true, true, true, true, true, false, false, false, false] HT_ rfl rfl ?_
          refine pu 8 31 #[true, true, true, true, true, true, true, true, true, false, false, false] HT_ rfl rfl ?_
          refine ta 9 32 #[true, true, true, true, true, true, true, true, true, true, false, false] HT_ HW_ hHeld rfl rfl ?_
          refine last_ (i := 10) (N := some 33) #[true, true, true, true, true, true, true, true, true, true, true, false] rfl rfl (one_of HT_.out (by kernel_rfl)) (by decide) (fun K hK => ?_)
          refine call_ 51 #[.slice A2 (rd_T48 l0 (wrap64 (rd o x7 - 1))).f1.length c2, .pointer (some ⟨gs + 1, 0, none⟩), .pointer (some ⟨gs + 1 + 1, 0, none⟩), .pointer (some ⟨bj, 0, none⟩)] (by rfl) rfl ?hrun ?_
          case hrun =>
            have he := enters_ (P := Try.prog) Try.func51 (by kernel_rfl) rfl #[.slice A2 (rd_T48 l0 (wrap64 (rd o x7 - 1))).f1.length c2, .pointer (some ⟨gs + 1, 0, none⟩), .pointer (some ⟨gs + 1 + 1, 0, none⟩), .pointer (some ⟨bj, 0, none⟩)] wr.drew
            unfold execOp
            simp [resolve, Deferred.ofValue, invoke, Act.eval, he]
          refine (reach_come.calls k1 w0 (a.at (gs + 1) gs (gs + 1 + 1) bj bb (.slice (some ad) l0.length c0)) (HR.out _ _ _ _ _ _) A2 c2 (rd_T48 l0 (wrap64 (rd o x7 - 1))).f1 HR2.out HC2.out o o2 _ vo wr.drew ⟨HG.out.i.drew, HG.out.c.drew, HG.out.x, HG.out.b.drew⟩ (by show g_comes k1 a.N _ 0 o = some o2; rw [HN.out]; exact HA2.out)).mono ?_
          rintro e w5 ⟨rfl, vq5, vo5, hG5⟩
          have HG5 := Aside0.mk hG5
          clear hG5
          refine ⟨_, rfl, ?_⟩
          refine hK.out _ _ ?_
          clear hK K hHeld hj0 hq0 hqe hx1
          refine no 33 ?_
          refine pu 11 34 #[true, true, true, true, true, true, true, true, true, true, true, true] HT_ rfl rfl ?_
          refine done_ (done_of HT_.out (by kernel_rfl)) ?_
          go_wp2
          go_roundg k1
          case measure => have := HK1.out; omega
          case rel => exact ⟨wrap64 (x7 + 1), o2, vq5, vo5, rfl, H', ⟨by have := HK1.out; omega⟩, HG5⟩
        · rw [if_neg c4] at H
          exact absurd H (by simp)
      · rw [if_neg c3] at H
        have c3b0 : decide (x7 < (o.length : Int)) = false := decide_eq_false c3
        obtain rfl := Option.some.inj H
        clear c3
        go_wp2
        go_end0
        have hC := HG.out.c
        exact ⟨⟨_, rfl⟩, ⟨vo, ⟨hC.tB, hC.t, hC.oB, hC.o, hC.on, hC.rc, hC.df, hC.ge, hC.ne⟩⟩, HG.out.b⟩
end Go.Proofs.Yteeakklnlcjgbaa.P

end
section

namespace Go.Proofs.Yteeakklnlcjgbaa.P
open Go Go.RowKit Go.Proofs.YteeakklnlcjgbaaW.PrintWords Go.Proofs.YteeakklnlcjgbaaW.PrintLast Go.Proofs.YteeakklnlcjgbaaW.PrintMore
attribute [local go_sem] max2_int min2_int max_two min_two max_three min_three max_four min_four
set_option linter.unusedVariables false
set_option linter.unusedSimpArgs false
def l12_graph.T19 : Bool × List (List Nat × List Nat) := (true, [([], []), ([], []), ([1], [1]), ([], []), ([], []), ([4], [4]), ([3, 5], [3, 5]), ([2, 6], [2, 6]), ([7], [7]), ([0, 8, 6], [0, 8]), ([9, 9, 0, 1, 2, 3, 4, 5, 6, 7, 8, 9], [0, 9])])
def l12_graph.B19 : List Nat := [0, 0, 2, 0, 0, 16, 56, 126, 254, 511, 1023]
theorem l12_graph.tab19 : rtab .any (opsOf Try.f42 19) = l12_graph.T19 := by kernel_rfl
theorem l12_graph.bits19 : waitsOk l12_graph.T19.2 l12_graph.B19 = true := by kernel_rfl
theorem own_Ci {w : World} {B c : Nat} {A : Option Addr} {xs : List Int} (h : w.ownsRow B 3 1 (.slice A xs.length c) xs.length (intV xs)) : Kd.C (Kd.int .i64) w A xs.length xs := by
  have hR : Kd.R (Kd.int .i64) 3 w B (fun _ => True) (.slice A xs.length c) xs := by
    refine ⟨fun _ _ => trivial, intV xs, h, by simp [intV, Kd.int, Kd.scalar], fun j p hj => ?_⟩
    show _ = [Value.int .i64 p]
    obtain ⟨hlt, rfl⟩ := List.getElem?_eq_some_iff.1 hj
    show ((intV xs).drop (j * 1)).take 1 = _
    rw [Nat.mul_one, List.drop_eq_getElem_cons (by simpa [intV] using hlt)]
    simp [intV]
  exact (Kd.R_reads' hR).2.2
theorem made_num (m : Nat) : madeCells #[.int .i64 0] m = (intV (g_numL m [])).toArray := by
  rw [made_one, g_numL_nil, intV, List.map_replicate]
theorem rd_dec {o : List Int} {i : Int} (h0 : 0 ≤ i) (h1 : i < (o.length : Int)) : rd (o.map dec1) i = wrap64 (rd o i - 1) := by
  have : i.toNat < o.length := by omega
  simp [rd, dec1, List.getElem?_eq_getElem this]
set_option maxHeartbeats 8000000 in
set_option maxRecDepth 100000 in
theorem spec_l12Graph.calls (k : Nat) (A0 : Option Addr) (c0 : Nat) (l0 : List GObj) (A1 : Option Addr) (c1 : Nat) (l1 : List GVal) (r1 : List GObj) (r2 : List GVal) (w : World) (hr0 : Kd.C k48 w A0 l0.length l0) (hc0 : l0.length ≤ c0) (hr1 : Kd.C k46 w A1 l1.length l1) (hc1 : l1.length ≤ c1) (h : spec_l12Graph.f k l0 l1 = some (r1, r2)) :
    Calls Try.prog 42 #[.slice A0 l0.length c0, .slice A1 l1.length c1] w fun e w' => ∃ v0_ v1_ : Value, e = .returned (.tuple #[v0_, v1_]) ∧ Kd.S k48 48 w' w.heap.size (fun k_ => some k_ ≠ (v1_ : Value).ownBlock) v0_ r1 ∧ Kd.R k46 46 w' w.heap.size (fun _ => True) v1_ r2 ∧ Below w.heap.size w w' := by
  have HR0 := Aside0.mk hr0
  have HC0 := Aside0.mk hc0
  have HR1 := Aside0.mk hr1
  have HC1 := Aside0.mk hc1
  clear hr0 hc0 hr1 hc1
  rw [spec_l12Graph.f] at h
  by_cases hl : l0.length + 1 < 8796093022208
  · rw [if_pos hl] at h
    obtain ⟨o1, AO1, H⟩ := Option.bind_eq_some_iff.mp h
    replace H := Option.bind_eq_some_iff.mp H
    obtain ⟨o, AO, H⟩ := H
    replace H := Option.bind_eq_some_iff.mp H
    obtain ⟨g, AG, H⟩ := H
    replace H := Option.bind_eq_some_iff.mp H
    obtain ⟨r, AR, H⟩ := H
    obtain ⟨rfl, rfl⟩ : g = r1 ∧ r = r2 := by simpa using H
    have HO1 := Aside0.mk AO1
    have HO := Aside0.mk AO
    have HAG := Aside0.mk AG
    have HAR := Aside0.mk AR
    have HL := Aside0.mk hl
    clear AO1 AO AG AR h H
    have hmk : ∀ W : World, (Instr.makeSlice 55 (.int .i64 (l0.length : Int)) (.int .i64 (l0.length : Int))).run Try.prog W = .ok (.slice (some ⟨W.heap.size, 0, none⟩) l0.length l0.length) (W.alloc (.cells (intV (g_numL l0.length [])).toArray 3)) := by
      have h_ := print_make_int (P := Try.prog) 55 3 (.int .i64 0) 8 Try.underlying55 info3 rfl (by decide) (l0.length : Int) (by omega) (by simp; omega)
      rw [Int.toNat_natCast, made_num] at h_
      exact h_
    clear hl
    go_enter Try.func42, Try.ntmps42
    go_upto_region 2 with fail
    refine wpw_world (fun W => Aside0 (WS w.heap.size (w.heap.size + 1) w.heap.size l0.length [] [] (.slice none 0 0) W ∧ Below w.heap.size w W)) ?_ ?_
    · exact ⟨⟨blk_new' (by simp), blk_alloc (blk_new _ _) _, ⟨by simp [intV], .inl ⟨rfl, rfl⟩⟩, by simp [Value.ownBlock], ⟨by omega, by omega⟩⟩, ((Below.refl w.heap.size w).alloc (Nat.le_refl _) _).alloc (by simp) _⟩
    clear hmk
    intro w1 HG
    go_wp2
    go_loopg [7] k (fun kq v7 w' => ∃ (i : Int) (q : List Int) (vo : Value), v7 = .int .i64 i ∧ Aside0 (g_comes kq (l0.length + 1) l1 i q = some o1) ∧ Aside0 (kq ≤ k) ∧ Aside0 (WS w.heap.size (w.heap.size + 1) w.heap.size l0.length q q vo w' ∧ Below w.heap.size w w'))
    case atStart => exact ⟨0, [], _, rfl, HO1, ⟨Nat.le_refl _⟩, HG⟩
    case round =>
      clear HO1 HG
      obtain ⟨i, q, vo, rfl, HA, HK1, HG⟩ := hrel
      cases gk with
      | zero => exact absurd HA.out (by simp [g_comes])
      | succ k1 =>
        have H := HA.out
        clear HA
        rw [g_comes] at H
        by_cases c3 : i < (l1.length : Int)
        · rw [if_pos c3] at H
          have c3b0 : decide (i < (l1.length : Int)) = true := decide_eq_true c3
          by_cases c4 : 0 ≤ i
          · rw [if_pos c4] at H
            replace H := Option.bind_eq_some_iff.mp H
            obtain ⟨q2, HS, H⟩ := H
            have H' := Aside0.mk H
            have AS := Aside0.mk HS
            clear H HS
            obtain ⟨ad, e, hx0, hx1⟩ := at_T46 HR1.out i c4 c3
            cases e
            replace hx0 := (HG.out.2.cell (World.block_lt_of_cell? w _ hx0)).trans hx0
            replace hx1 := (HG.out.2.cell (World.block_lt_of_cell? w _ hx1)).trans hx1
            replace c3 := eq_true c3
            replace c4 := eq_true c4
            go_wp2_with (first | ((with_reducible refine gate_callee (f := 48) rfl ?_); refine goesL_ (some 30) rfl rfl Try.func48 (by kernel_rfl) rfl #[.pointer (some ⟨w.heap.size + 1, 0, none⟩), .agg #[.bool (rd_T46 l1 i).f0, .int .i64 (rd_T46 l1 i).f1]] rfl (by (try simp only [List.map_toArray, List.map_cons, List.map_nil]); first | done | rfl) ?_; refine (l12_come.calls w (w.heap.size + 1) w.heap.size l0.length HL.out q q2 vo wr (rd_T46 l1 i) HG.out.1 HG.out.2 AS.out).mono ?_; rintro e w4 ⟨⟨u_, rfl⟩, vo2, hW2, hB2⟩; refine ⟨_, rfl, ?_⟩; have HG2 := Aside0.mk (And.intro hW2 hB2); clear hW2 hB2 HG hx0 hx1))
            go_roundg k1
            case measure => have := HK1.out; omega
            case rel => exact ⟨wrap64 (i + 1), q2, vo2, rfl, H', ⟨by have := HK1.out; omega⟩, HG2⟩
          · rw [if_neg c4] at H
            exact absurd H (by simp)
        · rw [if_neg c3] at H
          have c3b0 : decide (i < (l1.length : Int)) = false := decide_eq_false c3
          obtain rfl := Option.some.inj H
          clear c3 H HK1
          go_wp2
          go_loopg [8] k (fun kq v8 w' => ∃ (i : Int) (q : List Int) (vo : Value), v8 = .int .i64 i ∧ Aside0 (g_walk kq l0 i q = some o) ∧ Aside0 (kq ≤ k) ∧ Aside0 (WS w.heap.size (w.heap.size + 1) w.heap.size l0.length q q vo w' ∧ Below w.heap.size w w'))
          case atStart => exact ⟨0, q, vo, rfl, HO, ⟨Nat.le_refl _⟩, HG⟩
          case round =>
            clear HO HG
            obtain ⟨i, q, vo, rfl, HA, HK1, HG⟩ := hrel
            cases gk with
            | zero => exact absurd HA.out (by simp [g_walk])
            | succ k1 =>
              have H := HA.out
              clear HA
              rw [g_walk] at H
              obtain ⟨Aq, cq, rfl, hcq⟩ := own_slice HG.out.1.o
              have hq0 : wr.cell? ⟨w.heap.size + 1, 1, none⟩ = some (.slice Aq q.length cq) := (blk_cell HG.out.1.b 1).trans rfl
              by_cases c3 : i < (q.length : Int)
              · rw [if_pos c3] at H
                have c3b0 : decide (i < (q.length : Int)) = true := decide_eq_true c3
                by_cases c4 : 0 ≤ i ∧ 0 ≤ wrap64 (rd q i - 1) ∧ wrap64 (rd q i - 1) < (l0.length : Int)
                · rw [if_pos c4] at H
                  obtain ⟨c5, c6, c7⟩ := c4
                  replace H := Option.bind_eq_some_iff.mp H
                  obtain ⟨q2, AS, H⟩ := H
                  have H' := Aside0.mk H
                  have HAS := Aside0.mk AS
                  clear H AS
                  obtain ⟨gq, rfl, hqe⟩ := own_read HG.out.1.o (by simp) i c5 c3
                  rw [rd_dec c5 c3] at hqe
                  obtain ⟨ad, A2, c2, e, hx0, hx1, hl2, hi2⟩ := at_T48 HR0.out (wrap64 (rd q i - 1)) c6 c7
                  cases e
                  have HR2 := Aside0.mk hi2
                  have HC2 := Aside0.mk hl2
                  clear hl2 hi2 hx0
                  replace hx1 := (HG.out.2.cell (World.block_lt_of_cell? w _ hx1)).trans hx1
                  replace c3 := eq_true c3
                  replace c5 := eq_true c5
                  replace c6 := eq_true c6
                  replace c7 := eq_true c7
                  obtain ⟨vs, hvs⟩ : ∃ vs_, vs_ = (rd_T48 l0 (wrap64 (rd q i - 1))).f1 := ⟨_, rfl⟩
                  rw [← hvs] at hx1 HAS HR2 HC2
                  clear hvs
                  go_wp2
                  clear hq0 hqe hx1
                  go_loopg [10] k1 (fun kq v10 w' => ∃ (j : Int) (q : List Int) (vo : Value), v10 = .int .i64 j ∧ Aside0 (g_comes kq (l0.length + 1) vs j q = some q2) ∧ Aside0 (kq ≤ k1) ∧ Aside0 (WS w.heap.size (w.heap.size + 1) w.heap.size l0.length q q vo w' ∧ Below w.heap.size w w'))
                  case atStart => exact ⟨0, q, _, rfl, HAS, ⟨Nat.le_refl _⟩, HG⟩
                  case round =>
                    clear HAS HG
                    obtain ⟨j, q, vo, rfl, HA, HK2, HG⟩ := hrel
                    cases gk with
                    | zero => exact absurd HA.out (by simp [g_comes])
                    | succ k2 =>
                      have H := HA.out
                      clear HA
                      rw [g_comes] at H
                      by_cases d3 : j < (vs.length : Int)
                      · rw [if_pos d3] at H
                        have d3b0 : decide (j < (vs.length : Int)) = true := decide_eq_true d3
                        by_cases d4 : 0 ≤ j
                        · rw [if_pos d4] at H
                          replace H := Option.bind_eq_some_iff.mp H
                          obtain ⟨q3, HS, H⟩ := H
                          have H2' := Aside0.mk H
                          have AS := Aside0.mk HS
                          clear H HS
                          obtain ⟨ad2, e, hx0, hx1⟩ := at_T46 HR2.out j d4 d3
                          cases e
                          replace hx0 := (HG.out.2.cell (World.block_lt_of_cell? w _ hx0)).trans hx0
                          replace hx1 := (HG.out.2.cell (World.block_lt_of_cell? w _ hx1)).trans hx1
                          replace d3 := eq_true d3
                          replace d4 := eq_true d4
                          go_wp2_with (first | ((with_reducible refine gate_callee (f := 48) rfl ?_); refine goesL_ (some 62) rfl rfl Try.func48 (by kernel_rfl) rfl #[.pointer (some ⟨w.heap.size + 1, 0, none⟩), .agg #[.bool (rd_T46 vs j).f0, .int .i64 (rd_T46 vs j).f1]] rfl (by (try simp only [List.map_toArray, List.map_cons, List.map_nil]); first | done | rfl) ?_; refine (l12_come.calls w (w.heap.size + 1) w.heap.size l0.length HL.out q q3 vo wr (rd_T46 vs j) HG.out.1 HG.out.2 AS.out).mono ?_; rintro e w4 ⟨⟨u_, rfl⟩, vo2, hW2, hB2⟩; refine ⟨_, rfl, ?_⟩; have HG2 := Aside0.mk (And.intro hW2 hB2); clear hW2 hB2 HG hx0 hx1))
                          go_roundg k2
                          case measure => have := HK2.out; omega
                          case rel => exact ⟨wrap64 (j + 1), q3, vo2, rfl, H2', ⟨by have := HK2.out; omega⟩, HG2⟩
                        · rw [if_neg d4] at H
                          exact absurd H (by simp)
                      · rw [if_neg d3] at H
                        have d3b0 : decide (j < (vs.length : Int)) = false := decide_eq_false d3
                        obtain rfl := Option.some.inj H
                        clear d3 H HK2
                        go_wp2
                        go_roundg k1
                        case measure => have := HK1.out; omega
                        case rel => exact ⟨wrap64 (i + 1), _, vo, rfl, H', ⟨by have := HK1.out; omega⟩, HG⟩
                · rw [if_neg c4] at H
                  exact absurd H (by simp)
              · rw [if_neg c3] at H
                have c3b0 : decide (i < (q.length : Int)) = false := decide_eq_false c3
                obtain rfl := Option.some.inj H
                clear c3 H HK1
                go_upto_region 14 with fail
                clear hq0
                refine wpw_world (fun W => Aside0 (WS w.heap.size (w.heap.size + 1) w.heap.size l0.length q q (.slice Aq q.length cq) W ∧ Below w.heap.size w W)) HG ?_
                clear HG
                intro W8 HG8
                have HB0 := Aside0.mk (Below.refl W8.heap.size W8)
                have HNL : Aside0 (Kd.C (Kd.int .i64) W8 (some ⟨w.heap.size, 0, none⟩) (g_numL l0.length q).length (g_numL l0.length q)) := ⟨own_Ci (B := 0) (c := l0.length) ⟨by simp [intV], .inr ⟨w.heap.size, l0.length, _, by rw [length_numL], Nat.zero_le _, HG8.out.1.n, by simp [length_numL], by have := HL.out; simp only [maxLen]; omega, by simp [intV, length_numL], List.take_of_length_le (by simp [intV, length_numL])⟩⟩⟩
                have HBW : Aside0 (W8.heap[w.heap.size + 1]? = some (.cells #[.slice (some ⟨w.heap.size, 0, none⟩) (g_numL l0.length q).length (g_numL l0.length q).length, .slice Aq q.length cq] 76 (0, 0))) := ⟨by rw [length_numL]; exact HG8.out.1.b⟩
                have HRO : Aside0 (Kd.C (Kd.int .i64) W8 Aq (q.map dec1).length (q.map dec1)) := ⟨own_Ci (B := w.heap.size) (c := cq) (by have h_ := HG8.out.1.o; simpa using h_)⟩
                have HR08 := Aside0.mk (Kd.C_below HR0.out HG8.out.2)
                have HR18 := Aside0.mk (Kd.C_below HR1.out HG8.out.2)
                have HB8 := Aside0.mk HG8.out.2
                clear HG8 HR0 HR1
                go_wp2_with (first | ((with_reducible refine gate_dst (N := 63) rfl ?_); refine Kd.S_lit k48 _ 48 ?hg (N := 63) ?hd (xs := ([] : List GObj)) (inner := []) (ok := fun _ => True) (okp := fun _ => True) ?hr ?hp (fun _ hk => hk) trivial (Below.refl _ _) (Nat.le_refl _) (by simp) ?_; (case hd => rfl); (case hg => rfl); (case hr => first | (go_simp; done) | (go_simp; rfl)); (case hp => exact (Reps.none _ _)); intro v374 w9 ho5 hb hg_ hnew_; clear hg_ hnew_; have n0_ := Aside0.mk (Kd.S_lower ho5 (below_size HB0.out)); have n1_ := Aside0.mk (below_step HB0.out hb); clear HB0; have HO9 := n0_; have HB := n1_; clear n0_ n1_; clear hb ho5))
                go_loopg [11, 12] k (fun kq v11 v12 w' => ∃ (gl : List GObj) (i : Int), v12 = .int .i64 i ∧ Aside0 (l12_out kq l0 (g_numL l0.length q) q i gl = some g) ∧ Aside0 (kq ≤ k) ∧ Aside0 (Kd.S k48 48 w' W8.heap.size (fun _ => True) v11 gl) ∧ Aside0 (Below W8.heap.size W8 w'))
                case atStart => exact ⟨[], 0, rfl, HAG, ⟨Nat.le_refl _⟩, HO9, HB⟩
                case round =>
                  clear HAG HO9 HB
                  obtain ⟨gl, i, rfl, HA, HK1, HO9, HB⟩ := hrel
                  cases gk with
                  | zero => exact absurd HA.out (by simp [l12_out])
                  | succ k1 =>
                    have H := HA.out
                    clear HA
                    rw [l12_out] at H
                    have hq0 : wr.cell? ⟨w.heap.size + 1, 1, none⟩ = some (.slice Aq q.length cq) := (blk_cell (blk_below HBW.out HB.out) 1).trans rfl
                    by_cases c3 : i < (q.length : Int)
                    · rw [if_pos c3] at H
                      have c3b0 : decide (i < (q.length : Int)) = true := decide_eq_true c3
                      by_cases c4 : 0 ≤ i ∧ 0 ≤ wrap64 (rd q i - 1) ∧ wrap64 (rd q i - 1) < (l0.length : Int)
                      · rw [if_pos c4] at H
                        obtain ⟨c5, c6, c7⟩ := c4
                        replace H := Option.bind_eq_some_iff.mp H
                        obtain ⟨vs, AV, H⟩ := H
                        have AVS := Aside0.mk AV
                        clear AV
                        by_cases c8 : gl.length < 4398046511104
                        · rw [if_pos c8] at H
                          have LM := Aside0.mk c8
                          have H' := Aside0.mk H
                          clear c8 H
                          obtain ⟨adq, eq, hqe⟩ := Kd.at_int HRO.out i c5 (by simpa using c3)
                          cases eq
                          rw [rd_dec c5 c3] at hqe
                          replace hqe := (HB.out.cell (World.block_lt_of_cell? W8 _ hqe)).trans hqe
                          obtain ⟨ad, A2, c2, e, hx0, hx1, hl2, hi2⟩ := at_T48 HR08.out (wrap64 (rd q i - 1)) c6 c7
                          cases e
                          have HR2 := Aside0.mk hi2
                          have HC2 := Aside0.mk hl2
                          clear hl2 hi2
                          replace hx0 := (HB.out.cell (World.block_lt_of_cell? W8 _ hx0)).trans hx0
                          replace hx1 := (HB.out.cell (World.block_lt_of_cell? W8 _ hx1)).trans hx1
                          replace c3 := eq_true c3
                          replace c5 := eq_true c5
                          replace c6 := eq_true c6
                          replace c7 := eq_true c7
                          go_upto_region 19 with fail
                          refine wpw_world (fun W => Aside0 (Below wr.heap.size wr W ∧ W.heap[wr.heap.size]? = some (.cells #[.int .i64 (rd_T48 l0 (wrap64 (rd q i - 1))).f0, .slice A2 (rd_T48 l0 (wrap64 (rd q i - 1))).f1.length c2] 48 (0, 0)))) ?_ ?_
                          · exact ⟨by repeat (first | exact Below.refl _ _ | apply below_alloc | refine below_set ?_ (Nat.le_refl _)), blk_new _ _⟩
                          clear hx0 hx1 hqe hq0
                          intro w1 HG
                          have HO9' := Aside0.mk (Kd.S_below (Kd.S_elderB HO9.out wr.heap.size (Nat.le_refl _)) HG.out.1)
                          have HB' := Aside0.mk (below_step HB.out HG.out.1)
                          have hgx := Aside0.mk HG.out.2
                          obtain ⟨gx, hgxe⟩ : ∃ g_, g_ = wr.heap.size := ⟨_, rfl⟩
                          rw [show (Value.pointer (some ⟨wr.heap.size, 0, none⟩)) = .pointer (some ⟨gx, 0, none⟩) from by rw [hgxe]]
                          rw [← hgxe] at hgx HO9'
                          clear HO9 HB HG hgxe
                          have HO9 := HO9'
                          have HB := HB'
                          clear HO9' HB'
                          refine start_ (n := 11) (S := fun w' => w'.cell? ⟨gx, 0, none⟩ = some (.int .i64 (rd_T48 l0 (wrap64 (rd q i - 1))).f0) ∧ w'.cell? ⟨gx, 1, none⟩ = some (.slice A2 (rd_T48 l0 (wrap64 (rd q i - 1))).f1.length c2)) (ds := []) #[false, false, false, false, false, false, false, false, false, false, false] (by kernel_rfl) rfl rfl ⟨(blk_cell hgx.out 0).trans rfl, (blk_cell hgx.out 1).trans rfl⟩ (fun hHeld => ?_); refine with_tabW l12_graph.tab19 l12_graph.bits19 (fun HT_ HW_ => ?_)
                          refine pu 0 83 #[true, false, false, false, false, false, false, false, false, false, false] HT_ rfl rfl ?_
                          refine pu 1 84 #[true, true, false, false, false, false, false, false, false, false, false] HT_ rfl rfl ?_
                          refine ta 2 85 #[true, true, true, false, false, false, false, false, false, false, false] HT_ HW_ hHeld rfl rfl ?_
                          refine pu 3 86 #[true, true, true, true, false, false, false, false, false, false, false] HT_ rfl rfl ?_
                          refine pu 4 87 #[true, true, true, true, true, false, false, false, false, false, false] HT_ rfl rfl ?_
                          refine ta 5 88 #[true, true, true, true, true, true, false, false, false, false, false] HT_ HW_ hHeld rfl rfl ?_
                          refine one_ (i := 6) (N := some 89) #[true, true, true, true, true, true, true, false, false, false, false] rfl rfl (one_of HT_.out (by kernel_rfl)) (by decide) (fun K hK => ?_)
                          refine gs Try.func49 #[.pointer (some ⟨w.heap.size + 1, 0, none⟩), .slice A2 (rd_T48 l0 (wrap64 (rd q i - 1))).f1.length c2] rfl rfl ?_
                          refine (l12_all.calls k1 (w.heap.size + 1) w.heap.size (g_numL l0.length q) _ A2 c2 (rd_T48 l0 (wrap64 (rd q i - 1))).f1 vs w1.drew (blk_drew (blk_below HBW.out HB.out)) (Kd.C_drew (Kd.C_below HNL.out HB.out)) (Kd.C_drew (Kd.C_below HR2.out HB.out)) HC2.out AVS.out).mono ?_
                          rintro e w9 ⟨mv, rfl, ho0, hb⟩
                          refine ⟨_, rfl, ?_⟩
                          have n0_ := Aside0.mk (Kd.S_elder' (Kd.S_drew HO9.out) (Kd.R_base ho0) hb)
                          have n1_ := Aside0.mk (Kd.R_lower ho0 (below_size (below_drew1 HB.out)))
                          have n2_ := Aside0.mk (below_step (below_drew1 HB.out) hb)
                          have n3_ := Aside0.mk (blk_below (blk_drew hgx.out) hb)
                          clear HO9 HB hgx ho0 hb
                          have HO9 := n0_
                          have HMV := n1_
                          have HB := n2_
                          have hgx := n3_
                          clear n0_ n1_ n2_ n3_
                          obtain ⟨Am, cm, rfl⟩ := Kd.R_slice HMV.out
                          refine hK.out _ _ ⟨(blk_cell hgx.out 0).trans rfl, (blk_cell hgx.out 1).trans rfl⟩ (fun hHeld => ?_)
                          clear hK K
                          refine no 89 ?_
                          refine pu 7 90 #[true, true, true, true, true, true, true, true, false, false, false] HT_ rfl rfl ?_
                          refine one_ (i := 8) (N := some 91) #[true, true, true, true, true, true, true, true, true, false, false] rfl rfl (one_of HT_.out (by kernel_rfl)) (by decide) (fun K hK => ?_)
                          refine value_ (w1 := ?_) (v := ?_) (by rfl) rfl ?_ ?_
                          rotate_left 2
                          · go_simp
                            constructor
                            · rfl
                            · rfl
                          refine hK.out _ _ ⟨(blk_cell (blk_alloc hgx.out _) 0).trans rfl, (blk_cell (blk_alloc hgx.out _) 1).trans rfl⟩ (fun hHeld => ?_)
                          clear hK K
                          refine no 91 ?_
                          refine one_ (i := 9) (N := some 92) #[true, true, true, true, true, true, true, true, true, true, false] rfl rfl (one_of HT_.out (by kernel_rfl)) (by decide) (fun K hK => ?_)
                          refine Kd.S_append_step k48 (w0 := W8) W8.heap.size (by rfl) (.tmp 83) (.tmp 91) 33 48 (.agg #[(.int .i64 0), (.slice none 0 0)]) 32 rfl Try.underlying33 info48 rfl (by decide) (by omega) u11 gl (⟨(rd_T48 l0 (wrap64 (rd q i - 1))).f0, vs⟩ : GObj) [.int .i64 (rd_T48 l0 (wrap64 (rd q i - 1))).f0, .slice Am vs.length cm] (fun k_ => k_ ≠ gx) (fun k_ => some k_ = (.slice Am vs.length cm : Value).ownBlock) rfl rfl ?aP ?aK ?aF ?aO ?aB ?aS ?aL ?_
                          (case aP => exact k48_mkM _ _ _ (⟨(rd_T48 l0 (wrap64 (rd q i - 1))).f0, vs⟩ : GObj) (Kd.R_mono (Kd.R_tight rfl HMV.out) (fun _ h_ => h_)))
                          (case aK => exact fun k_ hk_ => ⟨fun e_ => Kd.R_ne HMV.out hgx.out (by decide) (e_ ▸ hk_), fun e_ => ((Kd.S_R HO9.out).1 k_ e_.symm).2 hk_⟩)
                          (case aF => exact fun k_ hk => Kd.freshB hgx.out k_ hk)
                          (case aO => exact Kd.S_mono HO9.out (fun k_ hk => ⟨hk.1.2, fun e_ => hk.2 e_⟩))
                          (case aB => exact HB.out)
                          (case aS => exact HB.out.size)
                          (case aL => have := LM.out; omega)
                          intro v11 w11 ho hb hg hat
                          have n3_ := Aside0.mk (blk_grown hgx.out hg (Kd.S_away HO9.out (fun _ hk => hk.1.2)))
                          clear HO9 HB hgx
                          have HO9 := Aside0.mk (Kd.S_mono ho (fun _ _ => trivial))
                          have HB := Aside0.mk hb
                          have hgx := n3_
                          clear ho hb hg hat n3_
                          refine hK.out _ _ ⟨(blk_cell hgx.out 0).trans rfl, (blk_cell hgx.out 1).trans rfl⟩ (fun hHeld => ?_)
                          clear hK K
                          refine no 92 ?_
                          refine pu 10 11 #[true, true, true, true, true, true, true, true, true, true, true] HT_ rfl rfl ?_
                          refine done_ (done_of HT_.out (by kernel_rfl)) ?_
                          go_wp2
                          go_roundg k1
                          case measure => have := HK1.out; omega
                          case rel => exact ⟨gl ++ [(⟨(rd_T48 l0 (wrap64 (rd q i - 1))).f0, vs⟩ : GObj)], wrap64 (i + 1), rfl, H', ⟨by have := HK1.out; omega⟩, HO9, HB⟩
                        · rw [if_neg c8] at H
                          exact absurd H (by simp)
                      · rw [if_neg c4] at H
                        exact absurd H (by simp)
                    · rw [if_neg c3] at H
                      have c3b0 : decide (i < (q.length : Int)) = false := decide_eq_false c3
                      obtain rfl := Option.some.inj H
                      clear c3
                      obtain ⟨Ag, cg, eg9⟩ := Kd.S_slice HO9.out
                      (first | subst eg9 | (injection eg9 with f1_ f2_ f3_; subst f1_; subst f3_))
                      go_wp2_with (first | ((with_reducible refine gate_callee (f := 49) rfl ?_); refine goesL_ (some 96) rfl rfl Try.func49 (by kernel_rfl) rfl #[.pointer (some ⟨w.heap.size + 1, 0, none⟩), .slice A1 l1.length c1] rfl (by (try simp only [List.map_toArray, List.map_cons, List.map_nil]); first | done | rfl) ?_; refine (l12_all.calls k (w.heap.size + 1) w.heap.size (g_numL l0.length q) _ A1 c1 l1 r wr (blk_below HBW.out HB.out) (Kd.C_below HNL.out HB.out) (Kd.C_below HR18.out HB.out) HC1.out HAR.out).mono ?_; rintro e w9 ⟨mv, rfl, ho0, hb⟩; refine ⟨_, rfl, ?_⟩; have n0_ := Aside0.mk (Kd.S_elder' HO9.out (Kd.R_base ho0) hb); have n1_ := Aside0.mk (Kd.R_lower ho0 (below_size HB.out)); have n2_ := Aside0.mk (below_step HB.out hb); clear HO9 HB ho0 hb; have HO9 := n0_; have HMV := n1_; have HB := n2_; clear n0_ n1_ n2_))
                      go_ret2
                      exact ⟨_, _, rfl, Kd.S_lower (Kd.S_mono HO9.out (fun _ h_ => h_.2)) HB8.out.size, Kd.R_lower HMV.out HB8.out.size, below_then HB8.out HB8.out.size HB.out⟩
  · rw [if_neg hl] at h
    exact absurd h (by simp)
end Go.Proofs.Yteeakklnlcjgbaa.P

end
section

namespace Go.Proofs.Yteeakklnlcjgbaa.P
open Go.RowKit Go.Proofs.YteeakklnlcjgbaaW.PrintWords Go.Proofs.YteeakklnlcjgbaaW.PrintLast Go.Proofs.YteeakklnlcjgbaaW.PrintMore
attribute [local go_sem] max2_int min2_int max_two min_two max_three min_three max_four min_four
set_option linter.unusedVariables false
set_option linter.unusedSimpArgs false
set_option maxHeartbeats 8000000 in
set_option maxRecDepth 100000 in
theorem spec_HeapGraph.calls (k : Nat) (A0 : Option Addr) (c0 : Nat) (l0 : List (S48)) (A1 : Option Addr) (c1 : Nat) (l1 : List (S46)) (r1 : List (S48)) (r2 : List (S46)) (w : World) (hr0 : Kd.C k48 w A0 l0.length l0) (hc0 : l0.length ≤ c0) (hr1 : Kd.C k46 w A1 l1.length l1) (hc1 : l1.length ≤ c1) (h : spec_HeapGraph.f k l0 l1 = some (r1, r2)) :
    Calls Try.prog 23 #[.slice A0 l0.length c0, .slice A1 l1.length c1] w fun e w' => ∃ v0_ v1_ : Value, e = .returned (.tuple #[v0_, v1_]) ∧ Kd.S k48 48 w' w.heap.size (fun k_ => some k_ ≠ (v1_ : Value).ownBlock) v0_ r1 ∧ Kd.R k46 46 w' w.heap.size (fun _ => True) v1_ r2 ∧ Below w.heap.size w w' := by
  have HR0 := Aside0.mk hr0
  have HC0 := Aside0.mk hc0
  clear hr0 hc0
  have HR1 := Aside0.mk hr1
  have HC1 := Aside0.mk hc1
  clear hr1 hc1
  have HB := Aside0.mk (Below.refl w.heap.size w)
  have H : ((spec_HeapOk.f k l0 l1).bind fun t232 => (if t232 = true then ((spec_l12Graph.f k l0 l1).bind fun bt233 => (some (bt233.1, bt233.2))) else (some ((([] : List (S48))), (([] : List (S46))))))) = some (r1, r2) := h
  clear h
  replace H := Option.bind_eq_some_iff.mp H
  obtain ⟨t232, A30, H⟩ := H
  replace H : (if t232 = true then ((spec_l12Graph.f k l0 l1).bind fun bt233 => (some (bt233.1, bt233.2))) else (some ((([] : List (S48))), (([] : List (S46)))))) = some (r1, r2) := H
  have A3 := Aside0.mk A30
  clear A30
  by_cases c4 : t232 = true
  · subst c4
    have H1 : ((spec_l12Graph.f k l0 l1).bind fun bt233 => (some (bt233.1, bt233.2))) = some (r1, r2) := by rw [if_pos rfl] at H; exact H
    clear H
    have H := H1
    clear H1
    replace H := Option.bind_eq_some_iff.mp H
    obtain ⟨⟨t233, t234⟩, A50, H⟩ := H
    replace H : (some (t233, t234)) = some (r1, r2) := H
    have A5 := Aside0.mk A50
    clear A50
    simp only [Option.some.injEq, Prod.mk.injEq] at H
    obtain ⟨rfl, rfl⟩ := H
    go_enter Try.func23, Try.ntmps23
    go_wp2_with (first | ((with_reducible refine gate_callee (f := 17) rfl ?_); refine goesL_ (some 8) rfl rfl Try.func17 (by kernel_rfl) rfl #[.slice A0 l0.length c0, .slice A1 l1.length c1] rfl (by (try simp only [List.map_toArray, List.map_cons, List.map_nil]); first | done | rfl | (simp only [List.length_drop, List.length_take]; rfl)) ?_; (with_reducible refine (spec_HeapOk.calls k _ _ l0 _ _ l1 true _ ?side1 ?side2 ?side3 ?side4 A3.out).mono ?_); (case side1 => repeat (first | exact HR0.out | (with_reducible refine Kd.C_alloc ?_ _) | (with_reducible refine Kd.C_drewN ?_ _) | (with_reducible refine Kd.C_drew ?_))); (case side2 => exact HC0.out); (case side3 => repeat (first | exact HR1.out | (with_reducible refine Kd.C_alloc ?_ _) | (with_reducible refine Kd.C_drewN ?_ _) | (with_reducible refine Kd.C_drew ?_))); (case side4 => exact HC1.out); rintro e w6 ⟨rfl, hb⟩; refine ⟨_, rfl, ?_⟩; have n0_ := Aside0.mk (below_step (by repeat (first | (with_reducible first | exact HB.out | apply below_alloc | apply pw_below_drewN | apply below_drew1) | exact HB.out)) hb); clear HB; have HB := n0_; clear n0_; (try clear hb); (try clear hb2); (try clear hk); (try clear hi)) | ((with_reducible refine gate_callee (f := 42) rfl ?_); refine goesL_ (some 14) rfl rfl Try.func42 (by kernel_rfl) rfl #[.slice A0 l0.length c0, .slice A1 l1.length c1] rfl (by (try simp only [List.map_toArray, List.map_cons, List.map_nil]); first | done | rfl | (simp only [List.length_drop, List.length_take]; rfl)) ?_; (with_reducible refine (spec_l12Graph.calls k _ _ l0 _ _ l1 t233 t234 _ ?side1 ?side2 ?side3 ?side4 A5.out).mono ?_); (case side1 => repeat (first | exact (Kd.C_below HR0.out HB.out) | (with_reducible refine Kd.C_alloc ?_ _) | (with_reducible refine Kd.C_drewN ?_ _) | (with_reducible refine Kd.C_drew ?_))); (case side2 => exact HC0.out); (case side3 => repeat (first | exact (Kd.C_below HR1.out HB.out) | (with_reducible refine Kd.C_alloc ?_ _) | (with_reducible refine Kd.C_drewN ?_ _) | (with_reducible refine Kd.C_drew ?_))); (case side4 => exact HC1.out); rintro e w7 ⟨v235, v237, rfl, ho0, ho1, hb⟩; refine ⟨_, rfl, ?_⟩; have n0_ := Aside0.mk (Kd.S_lower ho0 (below_size (by repeat (first | (with_reducible first | exact HB.out | apply below_alloc | apply pw_below_drewN | apply below_drew1) | exact HB.out)))); have n1_ := Aside0.mk (Kd.R_lower ho1 (below_size (by repeat (first | (with_reducible first | exact HB.out | apply below_alloc | apply pw_below_drewN | apply below_drew1) | exact HB.out)))); have n2_ := Aside0.mk (below_step (by repeat (first | (with_reducible first | exact HB.out | apply below_alloc | apply pw_below_drewN | apply below_drew1) | exact HB.out)) hb); clear HB; have HO236 := n0_; have HO238 := n1_; have HB := n2_; clear n0_ n1_ n2_; (try clear hb); (try clear hb2); (try clear hk); (try clear hi); (try clear ho0); (try clear ho1)))
    go_ret2
    exact ⟨_, _, by first | rfl | (simp [errW_none, errW_some] <;> rfl) | (simp [*, errW_none, errW_some] <;> rfl), by (with_reducible repeat (first | apply Kd.S_alloc | apply Kd.S_drewN | apply Kd.S_drew)); exact HO236.out, by (with_reducible repeat (first | apply Kd.R_alloc | apply Kd.R_drewN | apply Kd.R_drew)); exact HO238.out, by repeat (first | (with_reducible first | exact HB.out | apply below_alloc | apply pw_below_drewN | apply below_drew1) | exact HB.out)⟩
  · replace c4 := Bool.eq_false_iff.mpr c4
    subst c4
    have H1 : (some ((([] : List (S48))), (([] : List (S46))))) = some (r1, r2) := by rw [if_neg (show ¬ (false = true) by decide)] at H; exact H
    clear H
    have H := H1
    clear H1
    obtain ⟨y239, hy239⟩ : ∃ y_ : List (S48), y_ = (([] : List (S48))) := ⟨_, rfl⟩
    replace H : (some (y239, (([] : List (S46))))) = some (r1, r2) := by first | (rw [hy239]; with_reducible exact H) | (have H2_ := (Option.bind_some _ _).symm.trans H; rw [hy239]; with_reducible exact H2_) | (have H2_ := (Option.bind_some _ _).symm.trans H; with_reducible exact H2_) | with_reducible exact H | (rw [hy239]; exact H) | exact H
    have Ny239 := Aside0.mk hy239
    clear hy239
    obtain ⟨y242, hy242⟩ : ∃ y_ : List (S46), y_ = (([] : List (S46))) := ⟨_, rfl⟩
    replace H : (some (y239, y242)) = some (r1, r2) := by first | (rw [hy242]; with_reducible exact H) | (have H2_ := (Option.bind_some _ _).symm.trans H; rw [hy242]; with_reducible exact H2_) | (have H2_ := (Option.bind_some _ _).symm.trans H; with_reducible exact H2_) | with_reducible exact H | (rw [hy242]; exact H) | exact H
    have Ny242 := Aside0.mk hy242
    clear hy242
    simp only [Option.some.injEq, Prod.mk.injEq] at H
    obtain ⟨rfl, rfl⟩ := H
    go_enter Try.func23, Try.ntmps23
    go_wp2_with (first | ((with_reducible refine gate_callee (f := 17) rfl ?_); refine goesL_ (some 8) rfl rfl Try.func17 (by kernel_rfl) rfl #[.slice A0 l0.length c0, .slice A1 l1.length c1] rfl (by (try simp only [List.map_toArray, List.map_cons, List.map_nil]); first | done | rfl | (simp only [List.length_drop, List.length_take]; rfl)) ?_; (with_reducible refine (spec_HeapOk.calls k _ _ l0 _ _ l1 false _ ?side1 ?side2 ?side3 ?side4 A3.out).mono ?_); (case side1 => repeat (first | exact HR0.out | (with_reducible refine Kd.C_alloc ?_ _) | (with_reducible refine Kd.C_drewN ?_ _) | (with_reducible refine Kd.C_drew ?_))); (case side2 => exact HC0.out); (case side3 => repeat (first | exact HR1.out | (with_reducible refine Kd.C_alloc ?_ _) | (with_reducible refine Kd.C_drewN ?_ _) | (with_reducible refine Kd.C_drew ?_))); (case side4 => exact HC1.out); rintro e w8 ⟨rfl, hb⟩; refine ⟨_, rfl, ?_⟩; have n0_ := Aside0.mk (below_step (by repeat (first | (with_reducible first | exact HB.out | apply below_alloc | apply pw_below_drewN | apply below_drew1) | exact HB.out)) hb); clear HB; have HB := n0_; clear n0_; (try clear hb); (try clear hb2); (try clear hk); (try clear hi)) | ((with_reducible refine gate_dst (N := 10) rfl ?_); refine Kd.S_lit k48 _ 48 ?hg (N := 10) ?hd (xs := ([] : List (S48))) (inner := []) (ok := fun _ => True) (okp := fun _ => True) ?hr ?hp (fun _ hk => hk) trivial (Below.refl _ _) (Nat.le_refl _) (by simp) ?_; (case hd => rfl); (case hg => rfl); (case hr => first | (go_simp; done) | (go_simp; rfl)); (case hp => exact (Reps.none _ _)); intro v240 w9 ho10 hb hg_ hnew_; clear hg_ hnew_; (first | rw [← Ny239.out] at ho10 | (simp only [Int.reduceToNat] at ho10; rw [← Ny239.out] at ho10)); have n0_ := Aside0.mk (Kd.S_lower ho10 (below_size (by repeat (first | (with_reducible first | exact HB.out | apply below_alloc | apply pw_below_drewN | apply below_drew1) | exact HB.out)))); have n1_ := Aside0.mk (below_step (by repeat (first | (with_reducible first | exact HB.out | apply below_alloc | apply pw_below_drewN | apply below_drew1) | exact HB.out)) hb); clear HB; have HO241 := n0_; have HB := n1_; clear n0_ n1_; clear hb ho10) | ((with_reducible refine gate_dst (N := 11) rfl ?_); refine Kd.R_lit k46 _ 46 ?hg (N := 11) ?hd (xs := ([] : List (S46))) (inner := []) (ok := fun _ => True) (okp := fun _ => True) ?hr ?hp (fun _ hk => hk) trivial (Below.refl _ _) (Nat.le_refl _) (by simp) ?_; (case hd => rfl); (case hg => rfl); (case hr => first | (go_simp; done) | (go_simp; rfl)); (case hp => exact (Reps.none _ _)); intro v243 w11 ho12 hb hg_ hnew_; clear hg_ hnew_; (first | rw [← Ny242.out] at ho12 | (simp only [Int.reduceToNat] at ho12; rw [← Ny242.out] at ho12)); have n0_ := Aside0.mk (Kd.S_elder' (by (with_reducible repeat (first | apply Kd.S_alloc | apply Kd.S_drewN | apply Kd.S_drew)); exact HO241.out) (Kd.R_base ho12) hb); have n1_ := Aside0.mk (Kd.R_lower ho12 (below_size (by repeat (first | (with_reducible first | exact HB.out | apply below_alloc | apply pw_below_drewN | apply below_drew1) | exact HB.out)))); have n2_ := Aside0.mk (below_step (by repeat (first | (with_reducible first | exact HB.out | apply below_alloc | apply pw_below_drewN | apply below_drew1) | exact HB.out)) hb); clear HO241; clear HB; have HO241 := n0_; have HO244 := n1_; have HB := n2_; clear n0_ n1_ n2_; clear hb ho12))
    go_ret2
    exact ⟨_, _, by first | rfl | (simp [errW_none, errW_some] <;> rfl) | (simp [*, errW_none, errW_some] <;> rfl), by (with_reducible repeat (first | apply Kd.S_alloc | apply Kd.S_drewN | apply Kd.S_drew)); exact Kd.S_mono HO241.out (fun _ hk => hk.2), by (with_reducible repeat (first | apply Kd.R_alloc | apply Kd.R_drewN | apply Kd.R_drew)); exact HO244.out, by repeat (first | (with_reducible first | exact HB.out | apply below_alloc | apply pw_below_drewN | apply below_drew1) | exact HB.out)⟩
end Go.Proofs.Yteeakklnlcjgbaa.P

end
section

namespace Go.Proofs.Yteeakklnlcjgbaa.P
open Go.RowKit Go.Proofs.YteeakklnlcjgbaaW.PrintWords Go.Proofs.YteeakklnlcjgbaaW.PrintLast Go.Proofs.YteeakklnlcjgbaaW.PrintMore
attribute [local go_sem] max2_int min2_int max_two min_two max_three min_three max_four min_four
set_option linter.unusedVariables false
set_option linter.unusedSimpArgs false
def IsS72 (w0 W : World) (g : Nat) (f0 : List Int) (f1 : Int) : Prop := ∃ A0 c0, W.heap[g]? = some (.cells #[.slice A0 f0.length c0, .int .i64 f1] 72 (0, 0)) ∧ w0.heap.size ≤ g ∧ Kd.C (Kd.int .u8) w0 A0 f0.length f0
theorem IsS72.grown {w0 W : World} {g : Nat} {f0 : List Int} {f1 : Int} {W1 : World} {row : Option Nat} (h : IsS72 w0 W g f0 f1) (hw : W.grownBy W1 row) (hne : some g ≠ row) : IsS72 w0 W1 g f0 f1 := by
  obtain ⟨A0, c0, hb, hg, hr0⟩ := h
  exact ⟨A0, c0, blk_grown hb hw hne, hg, hr0⟩
theorem IsS72.kept {w0 W : World} {g : Nat} {f0 : List Int} {f1 : Int} {W1 : World} {S : Nat → Prop} (h : IsS72 w0 W g f0 f1) (hk : Kept W W1 S) (hne : ¬ S g) : IsS72 w0 W1 g f0 f1 := by
  obtain ⟨A0, c0, hb, hg, hr0⟩ := h
  exact ⟨A0, c0, blk_kept hb hk hne, hg, hr0⟩
theorem IsS72.below {w0 W : World} {g : Nat} {f0 : List Int} {f1 : Int} {W1 : World} (h : IsS72 w0 W g f0 f1) (hw : Below W.heap.size W W1) : IsS72 w0 W1 g f0 f1 := h.grown (grown_of_below hw none) (by simp)
theorem IsS72.alloc {w0 W : World} {g : Nat} {f0 : List Int} {f1 : Int} (h : IsS72 w0 W g f0 f1) (o : Obj) : IsS72 w0 (W.alloc o) g f0 f1 := h.below (below_alloc (Below.refl _ _) o)
theorem IsS72.drewN {w0 W : World} {g : Nat} {f0 : List Int} {f1 : Int} (h : IsS72 w0 W g f0 f1) (m : Nat) : IsS72 w0 (W.drewN m) g f0 f1 := h
theorem IsS72.drew {w0 W : World} {g : Nat} {f0 : List Int} {f1 : Int} (h : IsS72 w0 W g f0 f1) : IsS72 w0 W.drew g f0 f1 := h
theorem IsS72.at_ {w0 W : World} {g : Nat} {f0 : List Int} {f1 : Int} {w' : World} {m : Nat} (hq : W.drewN m = w') (h : IsS72 w0 W g f0 f1) : IsS72 w0 w' g f0 f1 := by subst hq; exact IsS72.drewN h m
theorem IsS72.apart {w0 W : World} {g : Nat} {f0 : List Int} {f1 : Int} {α : Type} {d : Kd α} {e : Nat} {base : Nat} {ok : Nat → Prop} {v : Value} {xs : List α} (h : IsS72 w0 W g f0 f1) (ho : d.R e W base ok v xs) (ht : ∀ q, q ∈ e :: d.E → q ≠ 72) : d.R e W base (fun k => ok k ∧ k ≠ g) v xs := by
  obtain ⟨A0, c0, hb, hg, hr0⟩ := h
  exact Kd.R_types ho hb ht
theorem IsS72.own_ne {w0 W : World} {g : Nat} {f0 : List Int} {f1 : Int} {α : Type} {d : Kd α} {e : Nat} {base : Nat} {ok : Nat → Prop} {v : Value} {xs : List α} (h : IsS72 w0 W g f0 f1) (ho : d.R e W base ok v xs) (ht : e ≠ 72) : some g ≠ v.ownBlock := by
  obtain ⟨A0, c0, hb, hg, hr0⟩ := h
  exact Kd.R_ne ho hb ht
theorem IsS72.apartS {w0 W : World} {g : Nat} {f0 : List Int} {f1 : Int} {α : Type} {d : Kd α} {e : Nat} {base : Nat} {ok : Nat → Prop} {v : Value} {xs : List α} (h : IsS72 w0 W g f0 f1) (ho : d.S e W base ok v xs) (ht : ∀ q, q ∈ e :: d.E → q ≠ 72) : d.S e W base (fun k => ok k ∧ k ≠ g) v xs := by
  obtain ⟨A0, c0, hb, hg, hr0⟩ := h
  exact Kd.S_types ho hb ht
theorem IsS72.own_neS {w0 W : World} {g : Nat} {f0 : List Int} {f1 : Int} {α : Type} {d : Kd α} {e : Nat} {base : Nat} {ok : Nat → Prop} {v : Value} {xs : List α} (h : IsS72 w0 W g f0 f1) (ho : d.S e W base ok v xs) (ht : e ≠ 72) : some g ≠ v.ownBlock := by
  obtain ⟨A0, c0, hb, hg, hr0⟩ := h
  exact Kd.S_ne ho hb ht
theorem IsS72.lt {w0 W : World} {g : Nat} {f0 : List Int} {f1 : Int} (h : IsS72 w0 W g f0 f1) : g < W.heap.size := by
  obtain ⟨A0, c0, hb, hg, hr0⟩ := h
  exact blk_lt hb
theorem IsS72.ge {w0 W : World} {g : Nat} {f0 : List Int} {f1 : Int} (h : IsS72 w0 W g f0 f1) : w0.heap.size ≤ g := by
  obtain ⟨A0, c0, hb, hg, hr0⟩ := h
  exact hg
theorem IsS72.ne_blk {w0 W : World} {g : Nat} {f0 : List Int} {f1 : Int} {a : Nat} {cs : Array Value} {t : TypeId} {fr : Nat × Nat} (h : IsS72 w0 W g f0 f1) (hb2 : W.heap[a]? = some (.cells cs t fr)) (ht : t ≠ 72) : g ≠ a := by
  obtain ⟨A0, c0, hb, hg, hr0⟩ := h
  rintro rfl
  rw [hb] at hb2
  injection hb2 with hb2
  injection hb2 with _ ht2
  exact ht ht2.symm
theorem IsS72.far {w0 W : World} {g : Nat} {f0 : List Int} {f1 : Int} {p : Addr} (h : IsS72 w0 W g f0 f1) (hne : g ≠ p.block) (u : Value) : IsS72 w0 (W.setCell p u) g f0 f1 := by
  obtain ⟨A0, c0, hb, hg, hr0⟩ := h
  exact ⟨A0, c0, blk_far hb hne u, hg, hr0⟩
theorem cellS72_0 {W : World} {g : Nat} {A0 : Option Addr} {c0 : Nat} {f0 : List Int} {f1 : Int} (h : W.heap[g]? = some (.cells #[.slice A0 f0.length c0, .int .i64 f1] 72 (0, 0))) : W.cell? ⟨g, 0, none⟩ = some (.slice A0 f0.length c0) := (blk_cell h 0).trans rfl
theorem cellS72_1 {W : World} {g : Nat} {A0 : Option Addr} {c0 : Nat} {f0 : List Int} {f1 : Int} (h : W.heap[g]? = some (.cells #[.slice A0 f0.length c0, .int .i64 f1] 72 (0, 0))) : W.cell? ⟨g, 1, none⟩ = some (.int .i64 f1) := (blk_cell h 1).trans rfl
theorem IsS72.set_1 {w0 W : World} {g : Nat} {f0 : List Int} {f1 : Int} (h : IsS72 w0 W g f0 f1) (x : Int) : IsS72 w0 (W.setCell ⟨g, 1, none⟩ (.int .i64 x)) g f0 x := by
  obtain ⟨A0, c0, hb, hg, hr0⟩ := h
  exact ⟨A0, c0, by simpa using blk_set hb 1 (.int .i64 x), hg, hr0⟩
end Go.Proofs.Yteeakklnlcjgbaa.P

end
section

namespace Go.Proofs.Yteeakklnlcjgbaa.P
open Go.RowKit Go.Proofs.YteeakklnlcjgbaaW.PrintWords Go.Proofs.YteeakklnlcjgbaaW.PrintLast Go.Proofs.YteeakklnlcjgbaaW.PrintMore
attribute [local go_sem] max2_int min2_int max_two min_two max_three min_three max_four min_four
set_option linter.unusedVariables false
set_option linter.unusedSimpArgs false
set_option maxHeartbeats 8000000 in
set_option maxRecDepth 100000 in
theorem spec_l6Open.calls (A0 : Option Addr) (c0 : Nat) (l0 : List Int) (r1 : List Int) (r2 : Int) (w0 w : World) (hB : Below w0.heap.size w0 w) (hr0 : Kd.C (Kd.int .u8) w0 A0 l0.length l0) (hc0 : l0.length ≤ c0) (h : spec_l6Open.f l0 = some (r1, r2)) :
    Calls Try.prog 33 #[.slice A0 l0.length c0] w fun e w' => ∃ g_ : Nat, e = .returned (.pointer (some ⟨g_, 0, none⟩)) ∧ IsS72 w0 w' g_ r1 r2 ∧ Below w0.heap.size w0 w' ∧ Below w.heap.size w w' := by
  have hu72 := Try.underlying72
  have HR0 := Aside0.mk hr0
  have HC0 := Aside0.mk hc0
  clear hr0 hc0
  have HBW := Aside0.mk (Below.refl w.heap.size w)
  have HW0 := Aside0.mk hB.size
  have HB := Aside0.mk hB
  clear hB
  have H : (if (l0.length : Int) > 2000 then (if 2000 ≤ (l0.length : Int) then (some (l0.take 2000, 0)) else (none)) else (some (l0, 0))) = some (r1, r2) := h
  clear h
  by_cases c2 : (l0.length : Int) > 2000
  · rw [if_pos c2] at H
    have c2b0 : decide (2000 < (l0.length : Int)) = true := decide_eq_true c2
    have c2b1 : decide (2000 < l0.length) = true := decide_eq_true (by omega)
    clear c2
    by_cases c3 : 2000 ≤ (l0.length : Int)
    · rw [if_pos c3] at H
      have c3b0 := eq_true c3
      have c3b1 : decide (2000 ≤ (l0.length : Int)) = true := decide_eq_true c3
      clear c3
      simp only [Option.some.injEq, Prod.mk.injEq] at H
      obtain ⟨rfl, rfl⟩ := H
      obtain ⟨i04, hi04, _, hsz4, _⟩ := info_parts info5
      obtain ⟨hcut4, hA4, hC4⟩ := print_take_of (P := Try.prog) (Value.int .u8) 0 25 5 .i64 Try.underlying25 hi04 hsz4 A0 c0 l0 2000 (by omega) (of_decide_eq_true (by first | (with_reducible assumption) | assumption)) HC0.out
      have HR103 := Aside0.mk (Kd.C_of_reads (h1 := fun _ => rfl) (hA4 _ (Kd.reads_of_C HR0.out)))
      have HC103 := Aside0.mk hC4
      clear hA4 hC4 hi04 hsz4
      go_enter Try.func33, Try.ntmps33
      go_wp2_with (first | ((with_reducible refine gate_dst (N := 10) rfl ?_); refine box_event ?hg (N := 10) ?hd (cs := #[.slice A0 (l0.take 2000).length c0, .int .i64 0]) (t := 72) ?hr ?_; (case hd => rfl); (case hg => rfl); (case hr => first | (go_simp; done) | (go_simp; rfl)); intro gb104 hg w5 hbox hb; have n0_ := Aside0.mk (below_step HBW.out hb); have n1_ := Aside0.mk (below_step (by repeat (first | (with_reducible first | exact HB.out | apply below_alloc | apply pw_below_drewN | apply below_drew1) | exact HB.out)) hb); have n2_ := Aside0.mk (hbox); have n3_ := Aside0.mk ((by rw [hg]; exact (below_size (by repeat (first | (with_reducible first | exact HBW.out | apply below_alloc | apply pw_below_drewN | apply below_drew1) | exact HBW.out))) : w.heap.size ≤ gb104)); have n4_ := Aside0.mk ((Nat.le_trans HW0.out (by rw [hg]; exact (below_size (by repeat (first | (with_reducible first | exact HBW.out | apply below_alloc | apply pw_below_drewN | apply below_drew1) | exact HBW.out))) : w.heap.size ≤ gb104) : w0.heap.size ≤ gb104)); clear HBW; clear HB; have HBW := n0_; have HB := n1_; have BK104 := n2_; have GW104 := n3_; have GE104 := n4_; clear n0_ n1_ n2_ n3_ n4_; clear hb hbox hg))
      go_ret
      exact ⟨_, rfl, (show IsS72 w0 _ gb104 (l0.take 2000) 0 from ⟨_, _, by (with_reducible repeat (first | refine blk_drewN ?_ _ | refine blk_drew ?_ | refine blk_alloc ?_ _)); exact BK104.out, GE104.out, HR103.out⟩), by repeat (first | (with_reducible first | exact HB.out | apply below_alloc | apply pw_below_drewN | apply below_drew1 | refine below_set ?_ GE104.out) | exact HB.out), by repeat (first | (with_reducible first | exact HBW.out | apply below_alloc | apply pw_below_drewN | apply below_drew1 | refine below_set ?_ GW104.out) | exact HBW.out)⟩
    · rw [if_neg c3] at H
      exact absurd H (by simp)
  · rw [if_neg c2] at H
    have c2b0 : decide (2000 < (l0.length : Int)) = false := decide_eq_false c2
    have c2b1 : decide (2000 < l0.length) = false := decide_eq_false (by omega)
    clear c2
    simp only [Option.some.injEq, Prod.mk.injEq] at H
    obtain ⟨rfl, rfl⟩ := H
    go_enter Try.func33, Try.ntmps33
    go_wp2_with (first | ((with_reducible refine gate_dst (N := 10) rfl ?_); refine box_event ?hg (N := 10) ?hd (cs := #[.slice A0 l0.length c0, .int .i64 0]) (t := 72) ?hr ?_; (case hd => rfl); (case hg => rfl); (case hr => first | (go_simp; done) | (go_simp; rfl)); intro gb105 hg w6 hbox hb; have n0_ := Aside0.mk (below_step HBW.out hb); have n1_ := Aside0.mk (below_step (by repeat (first | (with_reducible first | exact HB.out | apply below_alloc | apply pw_below_drewN | apply below_drew1) | exact HB.out)) hb); have n2_ := Aside0.mk (hbox); have n3_ := Aside0.mk ((by rw [hg]; exact (below_size (by repeat (first | (with_reducible first | exact HBW.out | apply below_alloc | apply pw_below_drewN | apply below_drew1) | exact HBW.out))) : w.heap.size ≤ gb105)); have n4_ := Aside0.mk ((Nat.le_trans HW0.out (by rw [hg]; exact (below_size (by repeat (first | (with_reducible first | exact HBW.out | apply below_alloc | apply pw_below_drewN | apply below_drew1) | exact HBW.out))) : w.heap.size ≤ gb105) : w0.heap.size ≤ gb105)); clear HBW; clear HB; have HBW := n0_; have HB := n1_; have BK105 := n2_; have GW105 := n3_; have GE105 := n4_; clear n0_ n1_ n2_ n3_ n4_; clear hb hbox hg))
    go_ret
    exact ⟨_, rfl, (show IsS72 w0 _ gb105 l0 0 from ⟨_, _, by (with_reducible repeat (first | refine blk_drewN ?_ _ | refine blk_drew ?_ | refine blk_alloc ?_ _)); exact BK105.out, GE105.out, HR0.out⟩), by repeat (first | (with_reducible first | exact HB.out | apply below_alloc | apply pw_below_drewN | apply below_drew1 | refine below_set ?_ GE105.out) | exact HB.out), by repeat (first | (with_reducible first | exact HBW.out | apply below_alloc | apply pw_below_drewN | apply below_drew1 | refine below_set ?_ GW105.out) | exact HBW.out)⟩
end Go.Proofs.Yteeakklnlcjgbaa.P

end
