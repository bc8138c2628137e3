/- A part of the claim FnClassesMore: texts of this session and texts that its program printed out of the translation, joined. -/
import Derived.Test.YtgmjolngnhdafaaCFnClassesMore0
import Derived.Test.YtgmjolngnhdafaaCFnClassesMore1
import Derived.Test.YtgmjolngnhdafaaWMore
section
namespace Go.Proofs.Ytgmjolngnhdafaa.P
open Go.RowKit Go.Proofs.YtgmjolngnhdafaaW.PrintWords Go.Proofs.YtgmjolngnhdafaaW.PrintLast Go.Proofs.YtgmjolngnhdafaaW.PrintMore
attribute [local go_sem] max2_int min2_int max_two min_two max_three min_three max_four min_four
set_option linter.unusedVariables false
set_option linter.unusedSimpArgs false

set_option maxHeartbeats 8000000 in
set_option maxRecDepth 100000 in
theorem spec_l2Class.calls (k : Nat) (A0 : Option Addr) (c0 : Nat) (l0 : List (S38)) (a1 : Int) (r : Bool) (w : World) (hr0 : Kd.C k38 w A0 l0.length l0) (hc0 : l0.length ≤ c0) (h : spec_l2Class.f k l0 a1 = some r) :
    Calls Try.prog 57 #[.slice A0 l0.length c0, .int .i64 a1] w fun e w' => e = .returned (.bool r) ∧ Below w.heap.size w w' := by
  have hu38 := Try.underlying38
  have HR0 := Aside0.mk hr0
  have HC0 := Aside0.mk hc0
  clear hr0 hc0
  have HB := Aside0.mk (Below.refl w.heap.size w)
  have H : (if 0 ≤ a1 then (if a1 < (l0.length : Int) then (spec_l2Class.l0 k l0 a1 0 ((rd_T38 l0 a1).f0) ((rd_T38 l0 a1).f1)) else (none)) else (none)) = some r := h
  clear h
  by_cases c3 : 0 ≤ a1
  · rw [if_pos c3] at H
    have c3b0 : decide (0 ≤ a1) = true := decide_eq_true c3
    clear c3
    by_cases c4 : a1 < (l0.length : Int)
    · rw [if_pos c4] at H
      have c4b0 : decide (a1 < (l0.length : Int)) = true := decide_eq_true c4
      clear c4
      have H' := Aside0.mk H
      clear H
      have p106 : 0 ≤ (a1 : Int) := of_decide_eq_true (by first | (with_reducible assumption) | assumption)
      have q106 : a1 < (l0.length : Int) := of_decide_eq_true (by first | (with_reducible assumption) | assumption)
      obtain ⟨ad106, A106_1, c106_1, e106, hx106_0, hx106_1, hl106_1, hi106_1⟩ := at_T38 HR0.out a1 p106 q106
      cases e106
      have HR106_1 := Aside0.mk hi106_1
      have HC106_1 := Aside0.mk hl106_1
      clear hi106_1 hl106_1
      replace p106 := eq_true p106
      replace q106 := eq_true q106
      go_enter Try.func57, Try.ntmps57
      go_wp2_with (first | ((with_reducible refine gate_dst (N := 5) rfl ?_); (try (refine gate_guard (by rfl) ?_; dsimp only)); refine box_event ?hg (N := 5) ?hd (cs := #[.int .i64 0, .slice none 0 0]) (t := 38) ?hr ?_; (case hd => rfl); (case hg => rfl); (case hr => first | (go_simp; done) | (go_simp; rfl)); intro gb107 hg w5 hbox hb; have n0_ := Aside0.mk (below_step (by repeat (first | (with_reducible first | exact HB.out | apply below_alloc | apply pw_below_drewN | apply below_drew1) | exact HB.out)) hb); have n1_ := Aside0.mk (hbox); have n2_ := Aside0.mk ((by rw [hg]; exact (below_size (by repeat (first | (with_reducible first | exact HB.out | apply below_alloc | apply pw_below_drewN | apply below_drew1) | exact HB.out))) : w.heap.size ≤ gb107)); have n3_ := Aside0.mk ((by rw [hg]; exact (below_size (by repeat (first | (with_reducible first | exact HB.out | apply below_alloc | apply pw_below_drewN | apply below_drew1) | exact HB.out))) : w.heap.size ≤ gb107)); clear HB; have HB := n0_; have BK107 := n1_; have GW107 := n2_; have GE107 := n3_; clear n0_ n1_ n2_ n3_; clear hb hbox hg; have hcz6_0 : w5.cell? ⟨gb107, 0, none⟩ = some (.int .i64 0) := (blk_cell BK107.out 0).trans rfl; have hcz6_1 : w5.cell? ⟨gb107, 1, none⟩ = some (.slice none 0 0) := (blk_cell BK107.out 1).trans rfl; have hfz6_0 := blk_frozen BK107.out 0; have hfz6_1 := blk_frozen BK107.out 1))
      go_loopg [6] k (fun kq v6 w' => ∃ (x6_1 : Int), v6 = .int .i64 x6_1 ∧ Aside0 (spec_l2Class.l0 kq l0 a1 x6_1 ((rd_T38 l0 a1).f0) ((rd_T38 l0 a1).f1) = some r) ∧ Aside0 (kq ≤ k) ∧ Aside0 (w'.heap[gb107]? = some (.cells #[.int .i64 ((rd_T38 l0 a1).f0), (.slice A106_1 ((rd_T38 l0 a1).f1).length c106_1)] 38 (0, 0))) ∧ Aside0 (Below w.heap.size w w'))
      case atStart => exact ⟨(0), (by first | rfl | (simp; done) | (simp [*]; done)), H', ⟨Nat.le_refl _⟩, ⟨by (with_reducible repeat (first | refine blk_drewN ?_ _ | refine blk_drew ?_ | refine blk_alloc ?_ _)); refine blk_put (cs := #[.int .i64 ((rd_T38 l0 a1).f0), .slice none 0 0]) ?_ 1 _ rfl; (with_reducible repeat (first | refine blk_drewN ?_ _ | refine blk_drew ?_ | refine blk_alloc ?_ _)); refine blk_put (cs := #[.int .i64 0, .slice none 0 0]) ?_ 0 _ rfl; (with_reducible repeat (first | refine blk_drewN ?_ _ | refine blk_drew ?_ | refine blk_alloc ?_ _)); exact BK107.out⟩, ⟨by repeat (first | (with_reducible first | exact HB.out | apply below_alloc | apply pw_below_drewN | apply below_drew1 | refine below_set ?_ GE107.out) | exact HB.out)⟩⟩
      case round =>
        clear H'
        try clear c1
        try clear p1
        try clear q1
        try clear hx1
        try clear p2
        try clear c3
        try clear c3b0
        try clear c4
        try clear c4b0
        try clear c5
        try clear hcz6_0
        try clear hcz6_1
        try clear hfz6_0
        try clear hfz6_1
        try clear hx106_0
        try clear hx106_1
        try clear p106
        try clear q106
        obtain ⟨x6_1, rfl, HA, HK1, BK107, HB⟩ := hrel
        cases gk with
        | zero => exact absurd HA.out (by simp [spec_l2Class.l0])
        | succ k1 =>
          have H := HA.out
          clear HA
          simp only [spec_l2Class.l0] at H
          by_cases c7 : x6_1 < (((rd_T38 l0 a1).f1).length : Int)
          · rw [if_pos c7] at H
            have c7b0 : decide (x6_1 < (((rd_T38 l0 a1).f1).length : Int)) = true := decide_eq_true c7
            clear c7
            by_cases c8 : 0 ≤ x6_1
            · rw [if_pos c8] at H
              have c8b0 : decide (0 ≤ x6_1) = true := decide_eq_true c8
              clear c8
              replace H := Option.bind_eq_some_iff.mp H
              obtain ⟨t109, A90, H⟩ := H
              replace H : (if t109 = true then (spec_l2Class.l0 k1 l0 a1 (wrap64 (x6_1 + 1)) ((rd_T38 l0 a1).f0) ((rd_T38 l0 a1).f1)) else (some false)) = some r := H
              have A9 := Aside0.mk A90
              clear A90
              by_cases c10 : t109 = true
              · subst c10
                have H1 : (spec_l2Class.l0 k1 l0 a1 (wrap64 (x6_1 + 1)) ((rd_T38 l0 a1).f0) ((rd_T38 l0 a1).f1)) = some r := by rw [if_pos rfl] at H; exact H
                clear H
                have H := H1
                clear H1
                have H' := Aside0.mk H
                clear H
                have hcz11_0 : wr.cell? ⟨gb107, 0, none⟩ = some (.int .i64 ((rd_T38 l0 a1).f0)) := (blk_cell BK107.out 0).trans rfl
                have hcz11_1 : wr.cell? ⟨gb107, 1, none⟩ = some (.slice A106_1 ((rd_T38 l0 a1).f1).length c106_1) := (blk_cell BK107.out 1).trans rfl
                have hfz11_0 := blk_frozen BK107.out 0
                have hfz11_1 := blk_frozen BK107.out 1
                have p108 : 0 ≤ (x6_1 : Int) := of_decide_eq_true (by first | (with_reducible assumption) | assumption)
                have q108 : x6_1 < (((rd_T38 l0 a1).f1).length : Int) := of_decide_eq_true (by first | (with_reducible assumption) | assumption)
                obtain ⟨ad108, e108, hx108_0⟩ := Kd.at_int HR106_1.out x6_1 p108 q108
                cases e108
                replace hx108_0 := (HB.out.cell (World.block_lt_of_cell? w _ hx108_0)).trans hx108_0
                replace p108 := eq_true p108
                replace q108 := eq_true q108
                go_wp2_with (first | ((with_reducible refine gate_callee (f := 61) rfl ?_); refine goesL_ (some 24) rfl rfl Try.func61 (by kernel_rfl) rfl #[.slice (some ad106) l0.length c0, .int .i64 (rd ((rd_T38 l0 a1).f1) x6_1)] rfl (by (try simp only [List.map_toArray, List.map_cons, List.map_nil]); first | done | rfl | (simp only [List.length_drop, List.length_take]; rfl)) ?_; (with_reducible refine (spec_l2Field.calls _ _ l0 (rd ((rd_T38 l0 a1).f1) x6_1) true _ ?side1 ?side2 A9.out).mono ?_); (case side1 => repeat (first | exact (Kd.C_below HR0.out HB.out) | (with_reducible refine Kd.C_alloc ?_ _) | (with_reducible refine Kd.C_drewN ?_ _) | (with_reducible refine Kd.C_drew ?_))); (case side2 => exact HC0.out); rintro e w' ⟨rfl, ⟨nd, rfl⟩⟩; refine ⟨_, rfl, ?_⟩))
                go_roundg k1
                case measure => have := HK1.out; omega
                case rel => exact ⟨(wrap64 (x6_1 + 1)), (by first | rfl | (simp; done) | (simp [*]; done)), H', ⟨by have := HK1.out; omega⟩, ⟨by (with_reducible repeat (first | refine blk_drewN ?_ _ | refine blk_drew ?_ | refine blk_alloc ?_ _)); exact BK107.out⟩, ⟨by repeat (first | (with_reducible first | exact HB.out | apply below_alloc | apply pw_below_drewN | apply below_drew1 | refine below_set ?_ GE107.out) | exact HB.out)⟩⟩
              · replace c10 := Bool.eq_false_iff.mpr c10
                subst c10
                have H1 : (some false) = some r := by rw [if_neg (show ¬ (false = true) by decide)] at H; exact H
                clear H
                have H := H1
                clear H1
                obtain rfl := Option.some.inj H
                simp only [Option.some.injEq, Prod.mk.injEq] at H
                obtain ⟨rfl⟩ := H
                have hcz12_0 : wr.cell? ⟨gb107, 0, none⟩ = some (.int .i64 ((rd_T38 l0 a1).f0)) := (blk_cell BK107.out 0).trans rfl
                have hcz12_1 : wr.cell? ⟨gb107, 1, none⟩ = some (.slice A106_1 ((rd_T38 l0 a1).f1).length c106_1) := (blk_cell BK107.out 1).trans rfl
                have hfz12_0 := blk_frozen BK107.out 0
                have hfz12_1 := blk_frozen BK107.out 1
                have p108 : 0 ≤ (x6_1 : Int) := of_decide_eq_true (by first | (with_reducible assumption) | assumption)
                have q108 : x6_1 < (((rd_T38 l0 a1).f1).length : Int) := of_decide_eq_true (by first | (with_reducible assumption) | assumption)
                obtain ⟨ad108, e108, hx108_0⟩ := Kd.at_int HR106_1.out x6_1 p108 q108
                cases e108
                replace hx108_0 := (HB.out.cell (World.block_lt_of_cell? w _ hx108_0)).trans hx108_0
                replace p108 := eq_true p108
                replace q108 := eq_true q108
                go_wp2_with (first | ((with_reducible refine gate_callee (f := 61) rfl ?_); refine goesL_ (some 24) rfl rfl Try.func61 (by kernel_rfl) rfl #[.slice (some ad106) l0.length c0, .int .i64 (rd ((rd_T38 l0 a1).f1) x6_1)] rfl (by (try simp only [List.map_toArray, List.map_cons, List.map_nil]); first | done | rfl | (simp only [List.length_drop, List.length_take]; rfl)) ?_; (with_reducible refine (spec_l2Field.calls _ _ l0 (rd ((rd_T38 l0 a1).f1) x6_1) false _ ?side1 ?side2 A9.out).mono ?_); (case side1 => repeat (first | exact (Kd.C_below HR0.out HB.out) | (with_reducible refine Kd.C_alloc ?_ _) | (with_reducible refine Kd.C_drewN ?_ _) | (with_reducible refine Kd.C_drew ?_))); (case side2 => exact HC0.out); rintro e w' ⟨rfl, ⟨nd, rfl⟩⟩; refine ⟨_, rfl, ?_⟩))
                go_ret
                exact ⟨by first | rfl | (simp [errW_none, errW_some] <;> rfl) | (simp [*, errW_none, errW_some] <;> rfl), by repeat (first | (with_reducible first | exact HB.out | apply below_alloc | apply pw_below_drewN | apply below_drew1 | refine below_set ?_ GE107.out) | exact HB.out)⟩
            · rw [if_neg c8] at H
              exact absurd H (by simp)
          · rw [if_neg c7] at H
            have c7b0 : decide (x6_1 < (((rd_T38 l0 a1).f1).length : Int)) = false := decide_eq_false c7
            clear c7
            by_cases c13 : a1 = 0
            · rw [if_pos c13] at H
              have c13b0 : (a1 == 0) = true := beq_iff_eq.mpr c13
              have c13b1 : (a1 != 0) = false := bne_eq_false_iff_eq.mpr c13
              clear c13
              by_cases c14 : ((rd_T38 l0 a1).f0) = (-1)
              · rw [if_pos c14] at H
                have c14b0 : (((rd_T38 l0 a1).f0) == (-1)) = true := beq_iff_eq.mpr c14
                have c14b1 : (((rd_T38 l0 a1).f0) != (-1)) = false := bne_eq_false_iff_eq.mpr c14
                clear c14
                obtain rfl := Option.some.inj H
                simp only [Option.some.injEq, Prod.mk.injEq] at H
                obtain ⟨rfl⟩ := H
                have hcz15_0 : wr.cell? ⟨gb107, 0, none⟩ = some (.int .i64 ((rd_T38 l0 a1).f0)) := (blk_cell BK107.out 0).trans rfl
                have hcz15_1 : wr.cell? ⟨gb107, 1, none⟩ = some (.slice A106_1 ((rd_T38 l0 a1).f1).length c106_1) := (blk_cell BK107.out 1).trans rfl
                have hfz15_0 := blk_frozen BK107.out 0
                have hfz15_1 := blk_frozen BK107.out 1
                go_wp2
                go_ret
                exact ⟨by first | rfl | (simp [errW_none, errW_some] <;> rfl) | (simp [*, errW_none, errW_some] <;> rfl), by repeat (first | (with_reducible first | exact HB.out | apply below_alloc | apply pw_below_drewN | apply below_drew1 | refine below_set ?_ GE107.out) | exact HB.out)⟩
              · rw [if_neg c14] at H
                have c14b0 : (((rd_T38 l0 a1).f0) == (-1)) = false := beq_eq_false_iff_ne.mpr c14
                have c14b1 : (((rd_T38 l0 a1).f0) != (-1)) = true := bne_iff_ne.mpr c14
                obtain rfl := Option.some.inj H
                simp only [Option.some.injEq, Prod.mk.injEq] at H
                obtain ⟨rfl⟩ := H
                have hcz16_0 : wr.cell? ⟨gb107, 0, none⟩ = some (.int .i64 ((rd_T38 l0 a1).f0)) := (blk_cell BK107.out 0).trans rfl
                have hcz16_1 : wr.cell? ⟨gb107, 1, none⟩ = some (.slice A106_1 ((rd_T38 l0 a1).f1).length c106_1) := (blk_cell BK107.out 1).trans rfl
                have hfz16_0 := blk_frozen BK107.out 0
                have hfz16_1 := blk_frozen BK107.out 1
                go_wp2
                go_ret
                exact ⟨by first | rfl | (simp [errW_none, errW_some] <;> rfl) | (simp [*, errW_none, errW_some] <;> rfl), by repeat (first | (with_reducible first | exact HB.out | apply below_alloc | apply pw_below_drewN | apply below_drew1 | refine below_set ?_ GE107.out) | exact HB.out)⟩
            · rw [if_neg c13] at H
              have c13b0 : (a1 == 0) = false := beq_eq_false_iff_ne.mpr c13
              have c13b1 : (a1 != 0) = true := bne_iff_ne.mpr c13
              by_cases c17 : a1 = 1
              · rw [if_pos c17] at H
                have c17b0 : (a1 == 1) = true := beq_iff_eq.mpr c17
                have c17b1 : (a1 != 1) = false := bne_eq_false_iff_eq.mpr c17
                clear c17
                by_cases c18 : ((rd_T38 l0 a1).f0) = 0
                · rw [if_pos c18] at H
                  have c18b0 : (((rd_T38 l0 a1).f0) == 0) = true := beq_iff_eq.mpr c18
                  have c18b1 : (((rd_T38 l0 a1).f0) != 0) = false := bne_eq_false_iff_eq.mpr c18
                  clear c18
                  by_cases c19 : (((rd_T38 l0 a1).f1).length : Int) = 1
                  · rw [if_pos c19] at H
                    have c19b0 : ((((rd_T38 l0 a1).f1).length : Int) == 1) = true := beq_iff_eq.mpr c19
                    have c19b1 : ((((rd_T38 l0 a1).f1).length : Int) != 1) = false := bne_eq_false_iff_eq.mpr c19
                    clear c19
                    by_cases c20 : 0 < (((rd_T38 l0 a1).f1).length : Int)
                    · rw [if_pos c20] at H
                      have c20b0 : decide (0 < (((rd_T38 l0 a1).f1).length : Int)) = true := decide_eq_true c20
                      have c20b1 : decide (0 < ((rd_T38 l0 a1).f1).length) = true := decide_eq_true (by omega)
                      clear c20
                      obtain rfl := Option.some.inj H
                      simp only [Option.some.injEq, Prod.mk.injEq] at H
                      obtain ⟨rfl⟩ := H
                      have hcz21_0 : wr.cell? ⟨gb107, 0, none⟩ = some (.int .i64 ((rd_T38 l0 a1).f0)) := (blk_cell BK107.out 0).trans rfl
                      have hcz21_1 : wr.cell? ⟨gb107, 1, none⟩ = some (.slice A106_1 ((rd_T38 l0 a1).f1).length c106_1) := (blk_cell BK107.out 1).trans rfl
                      have hfz21_0 := blk_frozen BK107.out 0
                      have hfz21_1 := blk_frozen BK107.out 1
                      have p110 : 0 ≤ (0 : Int) := (by omega)
                      have q110 : 0 < (((rd_T38 l0 a1).f1).length : Int) := of_decide_eq_true (by first | (with_reducible assumption) | assumption)
                      obtain ⟨ad110, e110, hx110_0⟩ := Kd.at_int HR106_1.out 0 p110 q110
                      cases e110
                      have qi110 : (0 < ((rd_T38 l0 a1).f1).length) = True := eq_true (by omega)
                      (try rw [show ((0 : Int)).toNat = 0 from rfl] at hx110_0)
                      (try rw [Addr.add_zero'] at hx110_0)
                      replace hx110_0 := (HB.out.cell (World.block_lt_of_cell? w _ hx110_0)).trans hx110_0
                      replace p110 := eq_true p110
                      replace q110 := eq_true q110
                      go_wp2
                      go_ret
                      exact ⟨by first | rfl | (simp [errW_none, errW_some] <;> rfl) | (simp [*, errW_none, errW_some] <;> rfl), by repeat (first | (with_reducible first | exact HB.out | apply below_alloc | apply pw_below_drewN | apply below_drew1 | refine below_set ?_ GE107.out) | exact HB.out)⟩
                    · rw [if_neg c20] at H
                      exact absurd H (by simp)
                  · rw [if_neg c19] at H
                    have c19b0 : ((((rd_T38 l0 a1).f1).length : Int) == 1) = false := beq_eq_false_iff_ne.mpr c19
                    have c19b1 : ((((rd_T38 l0 a1).f1).length : Int) != 1) = true := bne_iff_ne.mpr c19
                    obtain rfl := Option.some.inj H
                    simp only [Option.some.injEq, Prod.mk.injEq] at H
                    obtain ⟨rfl⟩ := H
                    have hcz22_0 : wr.cell? ⟨gb107, 0, none⟩ = some (.int .i64 ((rd_T38 l0 a1).f0)) := (blk_cell BK107.out 0).trans rfl
                    have hcz22_1 : wr.cell? ⟨gb107, 1, none⟩ = some (.slice A106_1 ((rd_T38 l0 a1).f1).length c106_1) := (blk_cell BK107.out 1).trans rfl
                    have hfz22_0 := blk_frozen BK107.out 0
                    have hfz22_1 := blk_frozen BK107.out 1
                    go_wp2
                    go_ret
                    exact ⟨by first | rfl | (simp [errW_none, errW_some] <;> rfl) | (simp [*, errW_none, errW_some] <;> rfl), by repeat (first | (with_reducible first | exact HB.out | apply below_alloc | apply pw_below_drewN | apply below_drew1 | refine below_set ?_ GE107.out) | exact HB.out)⟩
                · rw [if_neg c18] at H
                  have c18b0 : (((rd_T38 l0 a1).f0) == 0) = false := beq_eq_false_iff_ne.mpr c18
                  have c18b1 : (((rd_T38 l0 a1).f0) != 0) = true := bne_iff_ne.mpr c18
                  obtain rfl := Option.some.inj H
                  simp only [Option.some.injEq, Prod.mk.injEq] at H
                  obtain ⟨rfl⟩ := H
                  have hcz23_0 : wr.cell? ⟨gb107, 0, none⟩ = some (.int .i64 ((rd_T38 l0 a1).f0)) := (blk_cell BK107.out 0).trans rfl
                  have hcz23_1 : wr.cell? ⟨gb107, 1, none⟩ = some (.slice A106_1 ((rd_T38 l0 a1).f1).length c106_1) := (blk_cell BK107.out 1).trans rfl
                  have hfz23_0 := blk_frozen BK107.out 0
                  have hfz23_1 := blk_frozen BK107.out 1
                  go_wp2
                  go_ret
                  exact ⟨by first | rfl | (simp [errW_none, errW_some] <;> rfl) | (simp [*, errW_none, errW_some] <;> rfl), by repeat (first | (with_reducible first | exact HB.out | apply below_alloc | apply pw_below_drewN | apply below_drew1 | refine below_set ?_ GE107.out) | exact HB.out)⟩
              · rw [if_neg c17] at H
                have c17b0 : (a1 == 1) = false := beq_eq_false_iff_ne.mpr c17
                have c17b1 : (a1 != 1) = true := bne_iff_ne.mpr c17
                replace H := Option.bind_eq_some_iff.mp H
                obtain ⟨t111, A240, H⟩ := H
                replace H : (if t111 = true then (some (decide ((((rd_T38 l0 a1).f1).length : Int) ≤ 2))) else (some false)) = some r := H
                have A24 := Aside0.mk A240
                clear A240
                by_cases c25 : t111 = true
                · subst c25
                  have H1 : (some (decide ((((rd_T38 l0 a1).f1).length : Int) ≤ 2))) = some r := by rw [if_pos rfl] at H; exact H
                  clear H
                  have H := H1
                  clear H1
                  obtain rfl := Option.some.inj H
                  simp only [Option.some.injEq, Prod.mk.injEq] at H
                  obtain ⟨rfl⟩ := H
                  have hcz26_0 : wr.cell? ⟨gb107, 0, none⟩ = some (.int .i64 ((rd_T38 l0 a1).f0)) := (blk_cell BK107.out 0).trans rfl
                  have hcz26_1 : wr.cell? ⟨gb107, 1, none⟩ = some (.slice A106_1 ((rd_T38 l0 a1).f1).length c106_1) := (blk_cell BK107.out 1).trans rfl
                  have hfz26_0 := blk_frozen BK107.out 0
                  have hfz26_1 := blk_frozen BK107.out 1
                  go_wp2_with (first | ((with_reducible refine gate_callee (f := 56) rfl ?_); refine goesL_ (some 60) rfl rfl Try.func56 (by kernel_rfl) rfl #[.int .i64 ((rd_T38 l0 a1).f0), .int .i64 0, .int .i64 (wrap64 (a1 - 1))] rfl (by (try simp only [List.map_toArray, List.map_cons, List.map_nil]); first | done | rfl | (simp only [List.length_drop, List.length_take]; rfl)) ?_; (with_reducible refine (spec_l6In.calls ((rd_T38 l0 a1).f0) 0 (wrap64 (a1 - 1)) true _ A24.out).mono ?_); rintro e w' ⟨rfl, ⟨nd, rfl⟩⟩; refine ⟨_, rfl, ?_⟩))
                  go_ret
                  exact ⟨by first | rfl | (simp [errW_none, errW_some] <;> rfl) | (simp [*, errW_none, errW_some] <;> rfl), by repeat (first | (with_reducible first | exact HB.out | apply below_alloc | apply pw_below_drewN | apply below_drew1 | refine below_set ?_ GE107.out) | exact HB.out)⟩
                · replace c25 := Bool.eq_false_iff.mpr c25
                  subst c25
                  have H1 : (some false) = some r := by rw [if_neg (show ¬ (false = true) by decide)] at H; exact H
                  clear H
                  have H := H1
                  clear H1
                  obtain rfl := Option.some.inj H
                  simp only [Option.some.injEq, Prod.mk.injEq] at H
                  obtain ⟨rfl⟩ := H
                  have hcz27_0 : wr.cell? ⟨gb107, 0, none⟩ = some (.int .i64 ((rd_T38 l0 a1).f0)) := (blk_cell BK107.out 0).trans rfl
                  have hcz27_1 : wr.cell? ⟨gb107, 1, none⟩ = some (.slice A106_1 ((rd_T38 l0 a1).f1).length c106_1) := (blk_cell BK107.out 1).trans rfl
                  have hfz27_0 := blk_frozen BK107.out 0
                  have hfz27_1 := blk_frozen BK107.out 1
                  go_wp2_with (first | ((with_reducible refine gate_callee (f := 56) rfl ?_); refine goesL_ (some 60) rfl rfl Try.func56 (by kernel_rfl) rfl #[.int .i64 ((rd_T38 l0 a1).f0), .int .i64 0, .int .i64 (wrap64 (a1 - 1))] rfl (by (try simp only [List.map_toArray, List.map_cons, List.map_nil]); first | done | rfl | (simp only [List.length_drop, List.length_take]; rfl)) ?_; (with_reducible refine (spec_l6In.calls ((rd_T38 l0 a1).f0) 0 (wrap64 (a1 - 1)) false _ A24.out).mono ?_); rintro e w' ⟨rfl, ⟨nd, rfl⟩⟩; refine ⟨_, rfl, ?_⟩))
                  go_ret
                  exact ⟨by first | rfl | (simp [errW_none, errW_some] <;> rfl) | (simp [*, errW_none, errW_some] <;> rfl), by repeat (first | (with_reducible first | exact HB.out | apply below_alloc | apply pw_below_drewN | apply below_drew1 | refine below_set ?_ GE107.out) | exact HB.out)⟩
    · rw [if_neg c4] at H
      exact absurd H (by simp)
  · rw [if_neg c3] at H
    exact absurd H (by simp)

end Go.Proofs.Ytgmjolngnhdafaa.P

end
section
namespace Go.Proofs.Ytgmjolngnhdafaa.P
open Go.RowKit Go.Proofs.YtgmjolngnhdafaaW.PrintWords Go.Proofs.YtgmjolngnhdafaaW.PrintLast Go.Proofs.YtgmjolngnhdafaaW.PrintMore
attribute [local go_sem] max2_int min2_int max_two min_two max_three min_three max_four min_four
set_option linter.unusedVariables false
set_option linter.unusedSimpArgs false

set_option maxHeartbeats 8000000 in
set_option maxRecDepth 100000 in
theorem spec_ClassesOk.calls (k : Nat) (A0 : Option Addr) (c0 : Nat) (l0 : List (S38)) (r : Bool) (w : World) (hr0 : Kd.C k38 w A0 l0.length l0) (hc0 : l0.length ≤ c0) (h : spec_ClassesOk.f k l0 = some r) :
    Calls Try.prog 21 #[.slice A0 l0.length c0] w fun e w' => e = .returned (.bool r) ∧ Below w.heap.size w w' := by
  have HR0 := Aside0.mk hr0
  have HC0 := Aside0.mk hc0
  clear hr0 hc0
  have HB := Aside0.mk (Below.refl w.heap.size w)
  have H : ((spec_l6In.f (l0.length : Int) 2 5).bind fun t112 => (if t112 = true then (spec_ClassesOk.l0 k l0 0) else (some false))) = some r := h
  clear h
  replace H := Option.bind_eq_some_iff.mp H
  obtain ⟨t112, A20, H⟩ := H
  replace H : (if t112 = true then (spec_ClassesOk.l0 k l0 0) else (some false)) = some r := H
  have A2 := Aside0.mk A20
  clear A20
  by_cases c3 : t112 = true
  · subst c3
    have H1 : (spec_ClassesOk.l0 k l0 0) = some r := by rw [if_pos rfl] at H; exact H
    clear H
    have H := H1
    clear H1
    have H' := Aside0.mk H
    clear H
    go_enter Try.func21, Try.ntmps21
    go_wp2_with (first | ((with_reducible refine gate_callee (f := 56) rfl ?_); refine goesL_ (some 6) rfl rfl Try.func56 (by kernel_rfl) rfl #[.int .i64 (l0.length : Int), .int .i64 2, .int .i64 5] rfl (by (try simp only [List.map_toArray, List.map_cons, List.map_nil]); first | done | rfl | (simp only [List.length_drop, List.length_take]; rfl)) ?_; (with_reducible refine (spec_l6In.calls (l0.length : Int) 2 5 true _ A2.out).mono ?_); rintro e w' ⟨rfl, ⟨nd, rfl⟩⟩; refine ⟨_, rfl, ?_⟩))
    go_loopg [3] k (fun kq v3 w' => ∃ (x3_1 : Int), v3 = .int .i64 x3_1 ∧ Aside0 (spec_ClassesOk.l0 kq l0 x3_1 = some r) ∧ Aside0 (kq ≤ k) ∧ Aside0 (Below w.heap.size w w'))
    case atStart => exact ⟨(0), (by first | rfl | (simp; done) | (simp [*]; done)), H', ⟨Nat.le_refl _⟩, ⟨by repeat (first | (with_reducible first | exact HB.out | apply below_alloc | apply pw_below_drewN | apply below_drew1) | exact HB.out)⟩⟩
    case round =>
      clear H'
      try clear c2
      try clear p2
      try clear c3
      obtain ⟨x3_1, rfl, HA, HK1, HB⟩ := hrel
      cases gk with
      | zero => exact absurd HA.out (by simp [spec_ClassesOk.l0])
      | succ k1 =>
        have H := HA.out
        clear HA
        simp only [spec_ClassesOk.l0] at H
        by_cases c4 : x3_1 < (l0.length : Int)
        · rw [if_pos c4] at H
          have c4b0 : decide (x3_1 < (l0.length : Int)) = true := decide_eq_true c4
          clear c4
          replace H := Option.bind_eq_some_iff.mp H
          obtain ⟨t113, A50, H⟩ := H
          replace H : (if t113 = true then (spec_ClassesOk.l0 k1 l0 (wrap64 (x3_1 + 1))) else (some false)) = some r := H
          have A5 := Aside0.mk A50
          clear A50
          by_cases c6 : t113 = true
          · subst c6
            have H1 : (spec_ClassesOk.l0 k1 l0 (wrap64 (x3_1 + 1))) = some r := by rw [if_pos rfl] at H; exact H
            clear H
            have H := H1
            clear H1
            have H' := Aside0.mk H
            clear H
            go_wp2_with (first | ((with_reducible refine gate_callee (f := 57) rfl ?_); refine goesL_ (some 16) rfl rfl Try.func57 (by kernel_rfl) rfl #[.slice A0 l0.length c0, .int .i64 x3_1] rfl (by (try simp only [List.map_toArray, List.map_cons, List.map_nil]); first | done | rfl | (simp only [List.length_drop, List.length_take]; rfl)) ?_; (with_reducible refine (spec_l2Class.calls k1 _ _ l0 x3_1 true _ ?side1 ?side2 A5.out).mono ?_); (case side1 => repeat (first | exact (Kd.C_below HR0.out HB.out) | (with_reducible refine Kd.C_alloc ?_ _) | (with_reducible refine Kd.C_drewN ?_ _) | (with_reducible refine Kd.C_drew ?_))); (case side2 => exact HC0.out); rintro e w7 ⟨rfl, hb⟩; refine ⟨_, rfl, ?_⟩; have n0_ := Aside0.mk (below_step (by repeat (first | (with_reducible first | exact HB.out | apply below_alloc | apply pw_below_drewN | apply below_drew1) | exact HB.out)) hb); clear HB; have HB := n0_; clear n0_; (try clear hb); (try clear hb2); (try clear hk); (try clear hi)))
            go_roundg k1
            case measure => have := HK1.out; omega
            case rel => exact ⟨(wrap64 (x3_1 + 1)), (by first | rfl | (simp; done) | (simp [*]; done)), H', ⟨by have := HK1.out; omega⟩, ⟨by repeat (first | (with_reducible first | exact HB.out | apply below_alloc | apply pw_below_drewN | apply below_drew1) | exact HB.out)⟩⟩
          · replace c6 := Bool.eq_false_iff.mpr c6
            subst c6
            have H1 : (some false) = some r := by rw [if_neg (show ¬ (false = true) by decide)] at H; exact H
            clear H
            have H := H1
            clear H1
            obtain rfl := Option.some.inj H
            simp only [Option.some.injEq, Prod.mk.injEq] at H
            obtain ⟨rfl⟩ := H
            go_wp2_with (first | ((with_reducible refine gate_callee (f := 57) rfl ?_); refine goesL_ (some 16) rfl rfl Try.func57 (by kernel_rfl) rfl #[.slice A0 l0.length c0, .int .i64 x3_1] rfl (by (try simp only [List.map_toArray, List.map_cons, List.map_nil]); first | done | rfl | (simp only [List.length_drop, List.length_take]; rfl)) ?_; (with_reducible refine (spec_l2Class.calls k1 _ _ l0 x3_1 false _ ?side1 ?side2 A5.out).mono ?_); (case side1 => repeat (first | exact (Kd.C_below HR0.out HB.out) | (with_reducible refine Kd.C_alloc ?_ _) | (with_reducible refine Kd.C_drewN ?_ _) | (with_reducible refine Kd.C_drew ?_))); (case side2 => exact HC0.out); rintro e w8 ⟨rfl, hb⟩; refine ⟨_, rfl, ?_⟩; have n0_ := Aside0.mk (below_step (by repeat (first | (with_reducible first | exact HB.out | apply below_alloc | apply pw_below_drewN | apply below_drew1) | exact HB.out)) hb); clear HB; have HB := n0_; clear n0_; (try clear hb); (try clear hb2); (try clear hk); (try clear hi)))
            go_ret
            exact ⟨by first | rfl | (simp [errW_none, errW_some] <;> rfl) | (simp [*, errW_none, errW_some] <;> rfl), by repeat (first | (with_reducible first | exact HB.out | apply below_alloc | apply pw_below_drewN | apply below_drew1) | exact HB.out)⟩
        · rw [if_neg c4] at H
          have c4b0 : decide (x3_1 < (l0.length : Int)) = false := decide_eq_false c4
          clear c4
          obtain rfl := Option.some.inj H
          simp only [Option.some.injEq, Prod.mk.injEq] at H
          obtain ⟨rfl⟩ := H
          go_wp2
          go_ret
          exact ⟨by first | rfl | (simp [errW_none, errW_some] <;> rfl) | (simp [*, errW_none, errW_some] <;> rfl), by repeat (first | (with_reducible first | exact HB.out | apply below_alloc | apply pw_below_drewN | apply below_drew1) | exact HB.out)⟩
  · replace c3 := Bool.eq_false_iff.mpr c3
    subst c3
    have H1 : (some false) = some r := by rw [if_neg (show ¬ (false = true) by decide)] at H; exact H
    clear H
    have H := H1
    clear H1
    obtain rfl := Option.some.inj H
    simp only [Option.some.injEq, Prod.mk.injEq] at H
    obtain ⟨rfl⟩ := H
    go_enter Try.func21, Try.ntmps21
    go_wp2_with (first | ((with_reducible refine gate_callee (f := 56) rfl ?_); refine goesL_ (some 6) rfl rfl Try.func56 (by kernel_rfl) rfl #[.int .i64 (l0.length : Int), .int .i64 2, .int .i64 5] rfl (by (try simp only [List.map_toArray, List.map_cons, List.map_nil]); first | done | rfl | (simp only [List.length_drop, List.length_take]; rfl)) ?_; (with_reducible refine (spec_l6In.calls (l0.length : Int) 2 5 false _ A2.out).mono ?_); rintro e w' ⟨rfl, ⟨nd, rfl⟩⟩; refine ⟨_, rfl, ?_⟩))
    go_ret
    exact ⟨by first | rfl | (simp [errW_none, errW_some] <;> rfl) | (simp [*, errW_none, errW_some] <;> rfl), by repeat (first | (with_reducible first | exact HB.out | apply below_alloc | apply pw_below_drewN | apply below_drew1) | exact HB.out)⟩

end Go.Proofs.Ytgmjolngnhdafaa.P

end
section
namespace Go.Proofs.Ytgmjolngnhdafaa.P
open Go.RowKit Go.Proofs.YtgmjolngnhdafaaW.PrintWords Go.Proofs.YtgmjolngnhdafaaW.PrintLast Go.Proofs.YtgmjolngnhdafaaW.PrintMore
attribute [local go_sem] max2_int min2_int max_two min_two max_three min_three max_four min_four
set_option linter.unusedVariables false
set_option linter.unusedSimpArgs false

set_option maxHeartbeats 8000000 in
set_option maxRecDepth 100000 in
theorem spec_l2Is.calls (k : Nat) (A0 : Option Addr) (c0 : Nat) (l0 : List (S38)) (a1 : Int) (r : Bool) (w : World) (hr0 : Kd.C k38 w A0 l0.length l0) (hc0 : l0.length ≤ c0) (h : spec_l2Is.f k l0 a1 = some r) :
    Calls Try.prog 68 #[.slice A0 l0.length c0, .int .i64 a1] w fun e w' => e = .returned (.bool r) ∧ Below w.heap.size w w' := by
  have HR0 := Aside0.mk hr0
  have HC0 := Aside0.mk hc0
  clear hr0 hc0
  have HB := Aside0.mk (Below.refl w.heap.size w)
  have H : ((spec_ClassesOk.f k l0).bind fun t232 => (if t232 = true then ((spec_l6In.f a1 0 (wrap64 ((l0.length : Int) - 1))).bind fun t233 => (some t233)) else (some false))) = some r := h
  clear h
  replace H := Option.bind_eq_some_iff.mp H
  obtain ⟨t232, A30, H⟩ := H
  replace H : (if t232 = true then ((spec_l6In.f a1 0 (wrap64 ((l0.length : Int) - 1))).bind fun t233 => (some t233)) else (some false)) = some r := H
  have A3 := Aside0.mk A30
  clear A30
  by_cases c4 : t232 = true
  · subst c4
    have H1 : ((spec_l6In.f a1 0 (wrap64 ((l0.length : Int) - 1))).bind fun t233 => (some t233)) = some r := by rw [if_pos rfl] at H; exact H
    clear H
    have H := H1
    clear H1
    replace H := Option.bind_eq_some_iff.mp H
    obtain ⟨t233, A50, H⟩ := H
    replace H : (some t233) = some r := H
    have A5 := Aside0.mk A50
    clear A50
    obtain rfl := Option.some.inj H
    simp only [Option.some.injEq, Prod.mk.injEq] at H
    obtain ⟨rfl⟩ := H
    go_enter Try.func68, Try.ntmps68
    go_wp2_with (first | ((with_reducible refine gate_callee (f := 21) rfl ?_); refine goesL_ (some 6) rfl rfl Try.func21 (by kernel_rfl) rfl #[.slice A0 l0.length c0] rfl (by (try simp only [List.map_toArray, List.map_cons, List.map_nil]); first | done | rfl | (simp only [List.length_drop, List.length_take]; rfl)) ?_; (with_reducible refine (spec_ClassesOk.calls k _ _ l0 true _ ?side1 ?side2 A3.out).mono ?_); (case side1 => repeat (first | exact HR0.out | (with_reducible refine Kd.C_alloc ?_ _) | (with_reducible refine Kd.C_drewN ?_ _) | (with_reducible refine Kd.C_drew ?_))); (case side2 => exact HC0.out); rintro e w6 ⟨rfl, hb⟩; refine ⟨_, rfl, ?_⟩; have n0_ := Aside0.mk (below_step (by repeat (first | (with_reducible first | exact HB.out | apply below_alloc | apply pw_below_drewN | apply below_drew1) | exact HB.out)) hb); clear HB; have HB := n0_; clear n0_; (try clear hb); (try clear hb2); (try clear hk); (try clear hi)) | (go_at_call 56; (with_reducible refine (spec_l6In.calls a1 0 (wrap64 ((l0.length : Int) - 1)) t233 _ A5.out).mono ?_); rintro e w' ⟨rfl, ⟨nd, rfl⟩⟩))
    go_ret
    exact ⟨by first | rfl | (simp [errW_none, errW_some] <;> rfl) | (simp [*, errW_none, errW_some] <;> rfl), by repeat (first | (with_reducible first | exact HB.out | apply below_alloc | apply pw_below_drewN | apply below_drew1) | exact HB.out)⟩
  · replace c4 := Bool.eq_false_iff.mpr c4
    subst c4
    have H1 : (some false) = some r := by rw [if_neg (show ¬ (false = true) by decide)] at H; exact H
    clear H
    have H := H1
    clear H1
    obtain rfl := Option.some.inj H
    simp only [Option.some.injEq, Prod.mk.injEq] at H
    obtain ⟨rfl⟩ := H
    go_enter Try.func68, Try.ntmps68
    go_wp2_with (first | ((with_reducible refine gate_callee (f := 21) rfl ?_); refine goesL_ (some 6) rfl rfl Try.func21 (by kernel_rfl) rfl #[.slice A0 l0.length c0] rfl (by (try simp only [List.map_toArray, List.map_cons, List.map_nil]); first | done | rfl | (simp only [List.length_drop, List.length_take]; rfl)) ?_; (with_reducible refine (spec_ClassesOk.calls k _ _ l0 false _ ?side1 ?side2 A3.out).mono ?_); (case side1 => repeat (first | exact HR0.out | (with_reducible refine Kd.C_alloc ?_ _) | (with_reducible refine Kd.C_drewN ?_ _) | (with_reducible refine Kd.C_drew ?_))); (case side2 => exact HC0.out); rintro e w7 ⟨rfl, hb⟩; refine ⟨_, rfl, ?_⟩; have n0_ := Aside0.mk (below_step (by repeat (first | (with_reducible first | exact HB.out | apply below_alloc | apply pw_below_drewN | apply below_drew1) | exact HB.out)) hb); clear HB; have HB := n0_; clear n0_; (try clear hb); (try clear hb2); (try clear hk); (try clear hi)))
    go_ret
    exact ⟨by first | rfl | (simp [errW_none, errW_some] <;> rfl) | (simp [*, errW_none, errW_some] <;> rfl), by repeat (first | (with_reducible first | exact HB.out | apply below_alloc | apply pw_below_drewN | apply below_drew1) | exact HB.out)⟩

end Go.Proofs.Ytgmjolngnhdafaa.P

end
section
namespace Go.Proofs.Ytgmjolngnhdafaa.P
open Go.RowKit Go.Proofs.YtgmjolngnhdafaaW.PrintWords Go.Proofs.YtgmjolngnhdafaaW.PrintLast Go.Proofs.YtgmjolngnhdafaaW.PrintMore
attribute [local go_sem] max2_int min2_int max_two min_two max_three min_three max_four min_four
set_option linter.unusedVariables false
set_option linter.unusedSimpArgs false

set_option maxHeartbeats 8000000 in
set_option maxRecDepth 100000 in
theorem spec_l2Up.calls (k : Nat) (A0 : Option Addr) (c0 : Nat) (l0 : List (S38)) (a1 : Int) (a2 : Int) (r : Bool) (w : World) (hr0 : Kd.C k38 w A0 l0.length l0) (hc0 : l0.length ≤ c0) (h : spec_l2Up.f k l0 a1 a2 = some r) :
    Calls Try.prog 69 #[.slice A0 l0.length c0, .int .i64 a1, .int .i64 a2] w fun e w' => e = .returned (.bool r) ∧ Drawn0 w w' := by
  have HR0 := Aside0.mk hr0
  have HC0 := Aside0.mk hc0
  clear hr0 hc0
  have H : (spec_l2Up.l0 k l0 a1 a2) = some r := h
  clear h
  have H' := Aside0.mk H
  clear H
  go_enter Try.func69, Try.ntmps69
  go_wp2
  go_loopg [1] k (fun kq v1 w' => ∃ (x1_1 : Int), v1 = .int .i64 x1_1 ∧ Aside0 (spec_l2Up.l0 kq l0 x1_1 a2 = some r) ∧ Aside0 (kq ≤ k) ∧ Drawn0 w w')
  case atStart => exact ⟨(a1), (by first | rfl | (simp; done) | (simp [*]; done)), H', ⟨Nat.le_refl _⟩, by repeat (first | exact Drawn0.refl _ | apply Drawn0.step)⟩
  case round =>
    clear H'
    try clear p2
    obtain ⟨x1_1, rfl, HA, HK1, ⟨m1, rfl⟩⟩ := hrel
    cases gk with
    | zero => exact absurd HA.out (by simp [spec_l2Up.l0])
    | succ k1 =>
      have H := HA.out
      clear HA
      simp only [spec_l2Up.l0] at H
      by_cases c4 : x1_1 > a2
      · rw [if_pos c4] at H
        have c4b0 : decide (a2 < x1_1) = true := decide_eq_true c4
        clear c4
        by_cases c5 : 0 ≤ x1_1
        · rw [if_pos c5] at H
          have c5b0 : decide (0 ≤ x1_1) = true := decide_eq_true c5
          clear c5
          by_cases c6 : x1_1 < (l0.length : Int)
          · rw [if_pos c6] at H
            have c6b0 : decide (x1_1 < (l0.length : Int)) = true := decide_eq_true c6
            clear c6
            have H' := Aside0.mk H
            clear H
            have p234 : 0 ≤ (x1_1 : Int) := of_decide_eq_true (by first | (with_reducible assumption) | assumption)
            have q234 : x1_1 < (l0.length : Int) := of_decide_eq_true (by first | (with_reducible assumption) | assumption)
            obtain ⟨ad234, A234_1, c234_1, e234, hx234_0, hx234_1, hl234_1, hi234_1⟩ := at_T38 HR0.out x1_1 p234 q234
            cases e234
            have HR234_1 := Aside0.mk hi234_1
            have HC234_1 := Aside0.mk hl234_1
            clear hi234_1 hl234_1
            replace p234 := eq_true p234
            replace q234 := eq_true q234
            go_wp2
            go_roundg k1
            case measure => have := HK1.out; omega
            case rel => exact ⟨((rd_T38 l0 x1_1).f0), (by first | rfl | (simp; done) | (simp [*]; done)), H', ⟨by have := HK1.out; omega⟩, by repeat (first | exact Drawn0.refl _ | apply Drawn0.step)⟩
          · rw [if_neg c6] at H
            exact absurd H (by simp)
        · rw [if_neg c5] at H
          exact absurd H (by simp)
      · rw [if_neg c4] at H
        have c4b0 : decide (a2 < x1_1) = false := decide_eq_false c4
        clear c4
        obtain rfl := Option.some.inj H
        simp only [Option.some.injEq, Prod.mk.injEq] at H
        obtain ⟨rfl⟩ := H
        go_wp2
        go_ret
        exact ⟨by first | rfl | (simp; done) | (simp [*]; done), by repeat (first | exact Drawn0.refl _ | apply Drawn0.step)⟩

end Go.Proofs.Ytgmjolngnhdafaa.P

end
section
namespace Go.Proofs.Ytgmjolngnhdafaa.P
open Go.RowKit Go.Proofs.YtgmjolngnhdafaaW.PrintWords Go.Proofs.YtgmjolngnhdafaaW.PrintLast Go.Proofs.YtgmjolngnhdafaaW.PrintMore
attribute [local go_sem] max2_int min2_int max_two min_two max_three min_three max_four min_four
set_option linter.unusedVariables false
set_option linter.unusedSimpArgs false

set_option maxHeartbeats 8000000 in
set_option maxRecDepth 100000 in
theorem spec_ClassUp.calls (k : Nat) (A0 : Option Addr) (c0 : Nat) (l0 : List (S38)) (a1 : Int) (a2 : Int) (r : Bool) (w : World) (hr0 : Kd.C k38 w A0 l0.length l0) (hc0 : l0.length ≤ c0) (h : spec_ClassUp.f k l0 a1 a2 = some r) :
    Calls Try.prog 29 #[.slice A0 l0.length c0, .int .i64 a1, .int .i64 a2] w fun e w' => e = .returned (.bool r) ∧ Below w.heap.size w w' := by
  have HR0 := Aside0.mk hr0
  have HC0 := Aside0.mk hc0
  clear hr0 hc0
  have HB := Aside0.mk (Below.refl w.heap.size w)
  have H : ((spec_l2Is.f k l0 a1).bind fun t235 => (if t235 = true then ((spec_l2Is.f k l0 a2).bind fun t236 => (if t236 = true then ((spec_l2Up.f k l0 a1 a2).bind fun t237 => (some t237)) else (some false))) else (some false))) = some r := h
  clear h
  replace H := Option.bind_eq_some_iff.mp H
  obtain ⟨t235, A40, H⟩ := H
  replace H : (if t235 = true then ((spec_l2Is.f k l0 a2).bind fun t236 => (if t236 = true then ((spec_l2Up.f k l0 a1 a2).bind fun t237 => (some t237)) else (some false))) else (some false)) = some r := H
  have A4 := Aside0.mk A40
  clear A40
  by_cases c5 : t235 = true
  · subst c5
    have H1 : ((spec_l2Is.f k l0 a2).bind fun t236 => (if t236 = true then ((spec_l2Up.f k l0 a1 a2).bind fun t237 => (some t237)) else (some false))) = some r := by rw [if_pos rfl] at H; exact H
    clear H
    have H := H1
    clear H1
    replace H := Option.bind_eq_some_iff.mp H
    obtain ⟨t236, A60, H⟩ := H
    replace H : (if t236 = true then ((spec_l2Up.f k l0 a1 a2).bind fun t237 => (some t237)) else (some false)) = some r := H
    have A6 := Aside0.mk A60
    clear A60
    by_cases c7 : t236 = true
    · subst c7
      have H1 : ((spec_l2Up.f k l0 a1 a2).bind fun t237 => (some t237)) = some r := by rw [if_pos rfl] at H; exact H
      clear H
      have H := H1
      clear H1
      replace H := Option.bind_eq_some_iff.mp H
      obtain ⟨t237, A80, H⟩ := H
      replace H : (some t237) = some r := H
      have A8 := Aside0.mk A80
      clear A80
      obtain rfl := Option.some.inj H
      simp only [Option.some.injEq, Prod.mk.injEq] at H
      obtain ⟨rfl⟩ := H
      go_enter Try.func29, Try.ntmps29
      go_wp2_with (first | ((with_reducible refine gate_callee (f := 68) rfl ?_); refine goesL_ (some 9) rfl rfl Try.func68 (by kernel_rfl) rfl #[.slice A0 l0.length c0, .int .i64 a1] rfl (by (try simp only [List.map_toArray, List.map_cons, List.map_nil]); first | done | rfl | (simp only [List.length_drop, List.length_take]; rfl)) ?_; (with_reducible refine (spec_l2Is.calls k _ _ l0 a1 true _ ?side1 ?side2 A4.out).mono ?_); (case side1 => repeat (first | exact HR0.out | (with_reducible refine Kd.C_alloc ?_ _) | (with_reducible refine Kd.C_drewN ?_ _) | (with_reducible refine Kd.C_drew ?_))); (case side2 => exact HC0.out); rintro e w9 ⟨rfl, hb⟩; refine ⟨_, rfl, ?_⟩; have n0_ := Aside0.mk (below_step (by repeat (first | (with_reducible first | exact HB.out | apply below_alloc | apply pw_below_drewN | apply below_drew1) | exact HB.out)) hb); clear HB; have HB := n0_; clear n0_; (try clear hb); (try clear hb2); (try clear hk); (try clear hi)) | (go_at_call 68; (with_reducible refine (spec_l2Is.calls k _ _ l0 a2 true _ ?side1 ?side2 A6.out).mono ?_); (case side1 => repeat (first | exact (Kd.C_below HR0.out HB.out) | (with_reducible refine Kd.C_alloc ?_ _) | (with_reducible refine Kd.C_drewN ?_ _) | (with_reducible refine Kd.C_drew ?_))); (case side2 => exact HC0.out); rintro e w10 ⟨rfl, hb⟩; have n0_ := Aside0.mk (below_step (by repeat (first | (with_reducible first | exact HB.out | apply below_alloc | apply pw_below_drewN | apply below_drew1) | exact HB.out)) hb); clear HB; have HB := n0_; clear n0_; (try clear hb); (try clear hb2); (try clear hk); (try clear hi)) | (go_at_call 69; (with_reducible refine (spec_l2Up.calls k _ _ l0 a1 a2 t237 _ ?side1 ?side2 A8.out).mono ?_); (case side1 => repeat (first | exact (Kd.C_below HR0.out HB.out) | (with_reducible refine Kd.C_alloc ?_ _) | (with_reducible refine Kd.C_drewN ?_ _) | (with_reducible refine Kd.C_drew ?_))); (case side2 => exact HC0.out); rintro e w' ⟨rfl, ⟨nd, rfl⟩⟩))
      go_ret
      exact ⟨by first | rfl | (simp [errW_none, errW_some] <;> rfl) | (simp [*, errW_none, errW_some] <;> rfl), by repeat (first | (with_reducible first | exact HB.out | apply below_alloc | apply pw_below_drewN | apply below_drew1) | exact HB.out)⟩
    · replace c7 := Bool.eq_false_iff.mpr c7
      subst c7
      have H1 : (some false) = some r := by rw [if_neg (show ¬ (false = true) by decide)] at H; exact H
      clear H
      have H := H1
      clear H1
      obtain rfl := Option.some.inj H
      simp only [Option.some.injEq, Prod.mk.injEq] at H
      obtain ⟨rfl⟩ := H
      go_enter Try.func29, Try.ntmps29
      go_wp2_with (first | ((with_reducible refine gate_callee (f := 68) rfl ?_); refine goesL_ (some 9) rfl rfl Try.func68 (by kernel_rfl) rfl #[.slice A0 l0.length c0, .int .i64 a1] rfl (by (try simp only [List.map_toArray, List.map_cons, List.map_nil]); first | done | rfl | (simp only [List.length_drop, List.length_take]; rfl)) ?_; (with_reducible refine (spec_l2Is.calls k _ _ l0 a1 true _ ?side1 ?side2 A4.out).mono ?_); (case side1 => repeat (first | exact HR0.out | (with_reducible refine Kd.C_alloc ?_ _) | (with_reducible refine Kd.C_drewN ?_ _) | (with_reducible refine Kd.C_drew ?_))); (case side2 => exact HC0.out); rintro e w11 ⟨rfl, hb⟩; refine ⟨_, rfl, ?_⟩; have n0_ := Aside0.mk (below_step (by repeat (first | (with_reducible first | exact HB.out | apply below_alloc | apply pw_below_drewN | apply below_drew1) | exact HB.out)) hb); clear HB; have HB := n0_; clear n0_; (try clear hb); (try clear hb2); (try clear hk); (try clear hi)) | (go_at_call 68; (with_reducible refine (spec_l2Is.calls k _ _ l0 a2 false _ ?side1 ?side2 A6.out).mono ?_); (case side1 => repeat (first | exact (Kd.C_below HR0.out HB.out) | (with_reducible refine Kd.C_alloc ?_ _) | (with_reducible refine Kd.C_drewN ?_ _) | (with_reducible refine Kd.C_drew ?_))); (case side2 => exact HC0.out); rintro e w12 ⟨rfl, hb⟩; have n0_ := Aside0.mk (below_step (by repeat (first | (with_reducible first | exact HB.out | apply below_alloc | apply pw_below_drewN | apply below_drew1) | exact HB.out)) hb); clear HB; have HB := n0_; clear n0_; (try clear hb); (try clear hb2); (try clear hk); (try clear hi)))
      go_ret
      exact ⟨by first | rfl | (simp [errW_none, errW_some] <;> rfl) | (simp [*, errW_none, errW_some] <;> rfl), by repeat (first | (with_reducible first | exact HB.out | apply below_alloc | apply pw_below_drewN | apply below_drew1) | exact HB.out)⟩
  · replace c5 := Bool.eq_false_iff.mpr c5
    subst c5
    have H1 : (some false) = some r := by rw [if_neg (show ¬ (false = true) by decide)] at H; exact H
    clear H
    have H := H1
    clear H1
    obtain rfl := Option.some.inj H
    simp only [Option.some.injEq, Prod.mk.injEq] at H
    obtain ⟨rfl⟩ := H
    go_enter Try.func29, Try.ntmps29
    go_wp2_with (first | ((with_reducible refine gate_callee (f := 68) rfl ?_); refine goesL_ (some 9) rfl rfl Try.func68 (by kernel_rfl) rfl #[.slice A0 l0.length c0, .int .i64 a1] rfl (by (try simp only [List.map_toArray, List.map_cons, List.map_nil]); first | done | rfl | (simp only [List.length_drop, List.length_take]; rfl)) ?_; (with_reducible refine (spec_l2Is.calls k _ _ l0 a1 false _ ?side1 ?side2 A4.out).mono ?_); (case side1 => repeat (first | exact HR0.out | (with_reducible refine Kd.C_alloc ?_ _) | (with_reducible refine Kd.C_drewN ?_ _) | (with_reducible refine Kd.C_drew ?_))); (case side2 => exact HC0.out); rintro e w13 ⟨rfl, hb⟩; refine ⟨_, rfl, ?_⟩; have n0_ := Aside0.mk (below_step (by repeat (first | (with_reducible first | exact HB.out | apply below_alloc | apply pw_below_drewN | apply below_drew1) | exact HB.out)) hb); clear HB; have HB := n0_; clear n0_; (try clear hb); (try clear hb2); (try clear hk); (try clear hi)))
    go_ret
    exact ⟨by first | rfl | (simp [errW_none, errW_some] <;> rfl) | (simp [*, errW_none, errW_some] <;> rfl), by repeat (first | (with_reducible first | exact HB.out | apply below_alloc | apply pw_below_drewN | apply below_drew1) | exact HB.out)⟩

end Go.Proofs.Ytgmjolngnhdafaa.P

end
section
namespace Go.Proofs.Ytgmjolngnhdafaa.P
open Go.RowKit Go.Proofs.YtgmjolngnhdafaaW.PrintWords Go.Proofs.YtgmjolngnhdafaaW.PrintLast Go.Proofs.YtgmjolngnhdafaaW.PrintMore
attribute [local go_sem] max2_int min2_int max_two min_two max_three min_three max_four min_four
set_option linter.unusedVariables false
set_option linter.unusedSimpArgs false

set_option maxHeartbeats 8000000 in
set_option maxRecDepth 100000 in
theorem laws_leIs.calls (k : Nat) (A0 : Option Addr) (c0 : Nat) (l0 : List (S38)) (a1 : Int) (r : Bool) (w : World) (hr0 : Kd.C k38 w A0 l0.length l0) (hc0 : l0.length ≤ c0) (h : laws_leIs.f k l0 a1 = some r) :
    Calls Try.prog 30 #[.slice A0 l0.length c0, .int .i64 a1] w fun e w' => e = .returned (.bool r) ∧ Below w.heap.size w w' := by
  have HR0 := Aside0.mk hr0
  have HC0 := Aside0.mk hc0
  clear hr0 hc0
  have HB := Aside0.mk (Below.refl w.heap.size w)
  have H : ((spec_ClassesOk.f k l0).bind fun t238 => (if t238 = true then (if a1 ≥ 0 then (some (decide (a1 < (l0.length : Int)))) else (some false)) else (some false))) = some r := h
  clear h
  replace H := Option.bind_eq_some_iff.mp H
  obtain ⟨t238, A30, H⟩ := H
  replace H : (if t238 = true then (if a1 ≥ 0 then (some (decide (a1 < (l0.length : Int)))) else (some false)) else (some false)) = some r := H
  have A3 := Aside0.mk A30
  clear A30
  by_cases c4 : t238 = true
  · subst c4
    have H1 : (if a1 ≥ 0 then (some (decide (a1 < (l0.length : Int)))) else (some false)) = some r := by rw [if_pos rfl] at H; exact H
    clear H
    have H := H1
    clear H1
    by_cases c5 : a1 ≥ 0
    · rw [if_pos c5] at H
      have c5b0 : decide (0 ≤ a1) = true := decide_eq_true c5
      clear c5
      obtain rfl := Option.some.inj H
      simp only [Option.some.injEq, Prod.mk.injEq] at H
      obtain ⟨rfl⟩ := H
      go_enter Try.func30, Try.ntmps30
      go_wp2_with (first | ((with_reducible refine gate_callee (f := 21) rfl ?_); refine goesL_ (some 6) rfl rfl Try.func21 (by kernel_rfl) rfl #[.slice A0 l0.length c0] rfl (by (try simp only [List.map_toArray, List.map_cons, List.map_nil]); first | done | rfl | (simp only [List.length_drop, List.length_take]; rfl)) ?_; (with_reducible refine (spec_ClassesOk.calls k _ _ l0 true _ ?side1 ?side2 A3.out).mono ?_); (case side1 => repeat (first | exact HR0.out | (with_reducible refine Kd.C_alloc ?_ _) | (with_reducible refine Kd.C_drewN ?_ _) | (with_reducible refine Kd.C_drew ?_))); (case side2 => exact HC0.out); rintro e w6 ⟨rfl, hb⟩; refine ⟨_, rfl, ?_⟩; have n0_ := Aside0.mk (below_step (by repeat (first | (with_reducible first | exact HB.out | apply below_alloc | apply pw_below_drewN | apply below_drew1) | exact HB.out)) hb); clear HB; have HB := n0_; clear n0_; (try clear hb); (try clear hb2); (try clear hk); (try clear hi)))
      go_ret
      exact ⟨by first | rfl | (simp [errW_none, errW_some] <;> rfl) | (simp [*, errW_none, errW_some] <;> rfl), by repeat (first | (with_reducible first | exact HB.out | apply below_alloc | apply pw_below_drewN | apply below_drew1) | exact HB.out)⟩
    · rw [if_neg c5] at H
      have c5b0 : decide (0 ≤ a1) = false := decide_eq_false c5
      clear c5
      obtain rfl := Option.some.inj H
      simp only [Option.some.injEq, Prod.mk.injEq] at H
      obtain ⟨rfl⟩ := H
      go_enter Try.func30, Try.ntmps30
      go_wp2_with (first | ((with_reducible refine gate_callee (f := 21) rfl ?_); refine goesL_ (some 6) rfl rfl Try.func21 (by kernel_rfl) rfl #[.slice A0 l0.length c0] rfl (by (try simp only [List.map_toArray, List.map_cons, List.map_nil]); first | done | rfl | (simp only [List.length_drop, List.length_take]; rfl)) ?_; (with_reducible refine (spec_ClassesOk.calls k _ _ l0 true _ ?side1 ?side2 A3.out).mono ?_); (case side1 => repeat (first | exact HR0.out | (with_reducible refine Kd.C_alloc ?_ _) | (with_reducible refine Kd.C_drewN ?_ _) | (with_reducible refine Kd.C_drew ?_))); (case side2 => exact HC0.out); rintro e w7 ⟨rfl, hb⟩; refine ⟨_, rfl, ?_⟩; have n0_ := Aside0.mk (below_step (by repeat (first | (with_reducible first | exact HB.out | apply below_alloc | apply pw_below_drewN | apply below_drew1) | exact HB.out)) hb); clear HB; have HB := n0_; clear n0_; (try clear hb); (try clear hb2); (try clear hk); (try clear hi)))
      go_ret
      exact ⟨by first | rfl | (simp [errW_none, errW_some] <;> rfl) | (simp [*, errW_none, errW_some] <;> rfl), by repeat (first | (with_reducible first | exact HB.out | apply below_alloc | apply pw_below_drewN | apply below_drew1) | exact HB.out)⟩
  · replace c4 := Bool.eq_false_iff.mpr c4
    subst c4
    have H1 : (some false) = some r := by rw [if_neg (show ¬ (false = true) by decide)] at H; exact H
    clear H
    have H := H1
    clear H1
    obtain rfl := Option.some.inj H
    simp only [Option.some.injEq, Prod.mk.injEq] at H
    obtain ⟨rfl⟩ := H
    go_enter Try.func30, Try.ntmps30
    go_wp2_with (first | ((with_reducible refine gate_callee (f := 21) rfl ?_); refine goesL_ (some 6) rfl rfl Try.func21 (by kernel_rfl) rfl #[.slice A0 l0.length c0] rfl (by (try simp only [List.map_toArray, List.map_cons, List.map_nil]); first | done | rfl | (simp only [List.length_drop, List.length_take]; rfl)) ?_; (with_reducible refine (spec_ClassesOk.calls k _ _ l0 false _ ?side1 ?side2 A3.out).mono ?_); (case side1 => repeat (first | exact HR0.out | (with_reducible refine Kd.C_alloc ?_ _) | (with_reducible refine Kd.C_drewN ?_ _) | (with_reducible refine Kd.C_drew ?_))); (case side2 => exact HC0.out); rintro e w8 ⟨rfl, hb⟩; refine ⟨_, rfl, ?_⟩; have n0_ := Aside0.mk (below_step (by repeat (first | (with_reducible first | exact HB.out | apply below_alloc | apply pw_below_drewN | apply below_drew1) | exact HB.out)) hb); clear HB; have HB := n0_; clear n0_; (try clear hb); (try clear hb2); (try clear hk); (try clear hi)))
    go_ret
    exact ⟨by first | rfl | (simp [errW_none, errW_some] <;> rfl) | (simp [*, errW_none, errW_some] <;> rfl), by repeat (first | (with_reducible first | exact HB.out | apply below_alloc | apply pw_below_drewN | apply below_drew1) | exact HB.out)⟩

end Go.Proofs.Ytgmjolngnhdafaa.P

end
section
namespace Go.Proofs.Ytgmjolngnhdafaa.P
open Go.RowKit Go.Proofs.YtgmjolngnhdafaaW.PrintWords Go.Proofs.YtgmjolngnhdafaaW.PrintLast Go.Proofs.YtgmjolngnhdafaaW.PrintMore
attribute [local go_sem] max2_int min2_int max_two min_two max_three min_three max_four min_four
set_option linter.unusedVariables false
set_option linter.unusedSimpArgs false

def impl_classFields.T3 : Bool × List (List Nat × List Nat) := (true, [([], []), ([], []), ([], []), ([1, 2], [1, 2]), ([3], [3]), ([4], [4]), ([0, 5], [0, 5]), ([], []), ([], []), ([7, 8], [7, 8]), ([9], [9]), ([10], [10]), ([6, 11, 6], [6, 11]), ([12, 12, 0, 1, 2, 3, 4, 5, 6, 7, 8, 9, 10, 11, 12], [12])])
def impl_classFields.B3 : List Nat := [0, 0, 0, 6, 14, 30, 63, 0, 0, 384, 896, 1920, 4095, 8191]
theorem impl_classFields.tab3 : rtab .any (opsOf Try.f70 3) = impl_classFields.T3 := by kernel_rfl
theorem impl_classFields.bits3 : waitsOk impl_classFields.T3.2 impl_classFields.B3 = true := by kernel_rfl
set_option maxHeartbeats 8000000 in
set_option maxRecDepth 100000 in
theorem impl_classFields.calls (k : Nat) : ∀ (A0 : Option Addr) (c0 : Nat) (l0 : List (S38)) (a1 : Int) (r : List Int) (w : World) (hr0 : Kd.C k38 w A0 l0.length l0) (hc0 : l0.length ≤ c0) (h : impl_classFields.f k l0 a1 = some r),
    Calls Try.prog 70 #[.slice A0 l0.length c0, .int .i64 a1] w fun e w' => ∃ v0_ : Value, e = .returned (v0_) ∧ Kd.R (Kd.int .i64) 3 w' w.heap.size (fun _ => True) v0_ r ∧ Below w.heap.size w w' := by
  induction k using Nat.strongRecOn with
  | _ k ih =>
  intro A0 c0 l0 a1 r w hr0 hc0 h
  cases k with
  | zero => exact absurd h (by simp [impl_classFields.f])
  | succ k =>
  simp only [impl_classFields.f] at h
  have HR0 := Aside0.mk hr0
  have HC0 := Aside0.mk hc0
  clear hr0 hc0
  have HB := Aside0.mk (Below.refl w.heap.size w)
  have H : (if a1 = 0 then (some ([] : List Int)) else (if 0 ≤ a1 then (if a1 < (l0.length : Int) then ((impl_classFields.f k l0 ((rd_T38 l0 a1).f0)).bind fun t291 => (if t291.length + ((rd_T38 l0 a1).f1).length < 17592186044416 then (some (t291 ++ ((rd_T38 l0 a1).f1))) else (none))) else (none)) else (none))) = some r := h
  clear h
  by_cases c3 : a1 = 0
  · rw [if_pos c3] at H
    have c3b0 : (a1 == 0) = true := beq_iff_eq.mpr c3
    have c3b1 : (a1 != 0) = false := bne_eq_false_iff_eq.mpr c3
    clear c3
    obtain rfl := Option.some.inj H
    simp only [Option.some.injEq, Prod.mk.injEq] at H
    obtain ⟨rfl⟩ := H
    go_enter Try.func70, Try.ntmps70
    go_wp2
    go_ret
    exact ⟨_, by first | rfl | (simp [errW_none, errW_some] <;> rfl) | (simp [*, errW_none, errW_some] <;> rfl), by first | exact Kd.R_nil _ _ _ _ _ | exact Kd.N_nil _ _ _ _ _ | exact Kd.V_nil _ _ _ _ _ | exact Kd.Q_nil _ _ _ _ _ | exact Kd.S_nil _ _ _ _ _, by repeat (first | (with_reducible first | exact HB.out | apply below_alloc | apply pw_below_drewN | apply below_drew1) | exact HB.out)⟩
  · rw [if_neg c3] at H
    have c3b0 : (a1 == 0) = false := beq_eq_false_iff_ne.mpr c3
    have c3b1 : (a1 != 0) = true := bne_iff_ne.mpr c3
    by_cases c4 : 0 ≤ a1
    · rw [if_pos c4] at H
      have c4b0 : decide (0 ≤ a1) = true := decide_eq_true c4
      clear c4
      by_cases c5 : a1 < (l0.length : Int)
      · rw [if_pos c5] at H
        have c5b0 : decide (a1 < (l0.length : Int)) = true := decide_eq_true c5
        clear c5
        replace H := Option.bind_eq_some_iff.mp H
        obtain ⟨t291, A60, H⟩ := H
        replace H : (if t291.length + ((rd_T38 l0 a1).f1).length < 17592186044416 then (some (t291 ++ ((rd_T38 l0 a1).f1))) else (none)) = some r := H
        have A6 := Aside0.mk A60
        clear A60
        by_cases c7 : t291.length + ((rd_T38 l0 a1).f1).length < 17592186044416
        · rw [if_pos c7] at H
          have LMc7 := Aside0.mk c7
          clear c7
          obtain ⟨y295, hy295⟩ : ∃ y_ : List Int, y_ = (t291 ++ ((rd_T38 l0 a1).f1)) := ⟨_, rfl⟩
          replace H : (some y295) = some r := by first | (rw [hy295]; with_reducible exact H) | (have H2_ := (Option.bind_some _ _).symm.trans H; rw [hy295]; with_reducible exact H2_) | (have H2_ := (Option.bind_some _ _).symm.trans H; with_reducible exact H2_) | with_reducible exact H | (rw [hy295]; exact H) | exact H
          have Ny295 := Aside0.mk hy295
          clear hy295
          obtain rfl := Option.some.inj H
          simp only [Option.some.injEq, Prod.mk.injEq] at H
          obtain ⟨rfl⟩ := H
          go_enter Try.func70, Try.ntmps70
          try go_wp2
          have n0_ := Aside0.mk (below_drew1 HB.out)
          clear HB
          have HB := n0_
          clear n0_
          have p290 : 0 ≤ (a1 : Int) := of_decide_eq_true (by first | (with_reducible assumption) | assumption)
          have q290 : a1 < (l0.length : Int) := of_decide_eq_true (by first | (with_reducible assumption) | assumption)
          obtain ⟨ad290, A290_1, c290_1, e290, hx290_0, hx290_1, hl290_1, hi290_1⟩ := at_T38 HR0.out a1 p290 q290
          have hw290_1 := hx290_1
          have hw290_0 := hx290_0
          cases e290
          replace hx290_0 := (HB.out.cell (World.block_lt_of_cell? w _ hx290_0)).trans hx290_0
          replace hx290_1 := (HB.out.cell (World.block_lt_of_cell? w _ hx290_1)).trans hx290_1
          have HR290_1 := Aside0.mk hi290_1
          have HC290_1 := Aside0.mk hl290_1
          clear hi290_1 hl290_1
          replace p290 := eq_true p290
          replace q290 := eq_true q290
          have p294 : 0 ≤ (a1 : Int) := of_decide_eq_true (by first | (with_reducible assumption) | assumption)
          have q294 : a1 < (l0.length : Int) := of_decide_eq_true (by first | (with_reducible assumption) | assumption)
          obtain ⟨ad294, A294_1, c294_1, e294, hx294_0, hx294_1, hl294_1, hi294_1⟩ := at_T38 HR0.out a1 p294 q294
          have hw294_1 := hx294_1
          have hw294_0 := hx294_0
          obtain rfl : ad290 = ad294 := (by injection e294)
          replace hx294_0 := (HB.out.cell (World.block_lt_of_cell? w _ hx294_0)).trans hx294_0
          replace hx294_1 := (HB.out.cell (World.block_lt_of_cell? w _ hx294_1)).trans hx294_1
          have HR294_1 := Aside0.mk hi294_1
          have HC294_1 := Aside0.mk hl294_1
          clear hi294_1 hl294_1
          replace p294 := eq_true p294
          replace q294 := eq_true q294
          have ea_ := Option.some.inj (hx290_1.symm.trans hx294_1)
          injection ea_ with ea_ en_ ec_
          subst ea_
          subst ec_
          clear en_
          refine start_ (n := 14) (S := fun w' => w'.cell? (ad290.add ((a1).toNat * 2)) = some (.int .i64 ((rd_T38 l0 a1).f0)) ∧ w'.cell? ⟨(ad290.add ((a1).toNat * 2)).block, (ad290.add ((a1).toNat * 2)).off + 1, none⟩ = some (.slice A290_1 ((rd_T38 l0 a1).f1).length c290_1) ∧ w'.cell? (ad290.add ((a1).toNat * 2)) = some (.int .i64 ((rd_T38 l0 a1).f0)) ∧ w'.cell? ⟨(ad290.add ((a1).toNat * 2)).block, (ad290.add ((a1).toNat * 2)).off + 1, none⟩ = some (.slice A290_1 ((rd_T38 l0 a1).f1).length c290_1)) (ds := []) #[false, false, false, false, false, false, false, false, false, false, false, false, false, false] (by kernel_rfl) rfl rfl ⟨((HB.out.cell (World.block_lt_of_cell? w _ hw290_0)).trans hw290_0), ((HB.out.cell (World.block_lt_of_cell? w _ hw290_1)).trans hw290_1), ((HB.out.cell (World.block_lt_of_cell? w _ hw294_0)).trans hw294_0), ((HB.out.cell (World.block_lt_of_cell? w _ hw294_1)).trans hw294_1)⟩ (fun hHeld => ?_); refine with_tabW impl_classFields.tab3 impl_classFields.bits3 (fun HT_ HW_ => ?_)
          generalize w.drew = w8 at HB HR290_1 HR294_1 hx290_0 hx290_1 hx294_0 hx294_1 hHeld ⊢
          refine pure_ (i := 0) (N := some 7) (v := ?_) (a' := ?_) #[true, false, false, false, false, false, false, false, false, false, false, false, false, false] rfl rfl (any_of HT_.out (by kernel_rfl)) (fun _ _ _ h => h) (Or.inl ⟨by rfl, ?_⟩) ?_ ?_
          rotate_left
          · intro w'
            go_simp
            with_reducible rfl
          rotate_left
          · simp only [Act.put, List.setIfInBounds_toArray, List.set_cons_zero, List.set_cons_succ, i64_w, i32_w]
            rfl
          refine pure_ (i := 1) (N := some 8) (v := ?_) (a' := ?_) #[true, true, false, false, false, false, false, false, false, false, false, false, false, false] rfl rfl (any_of HT_.out (by kernel_rfl)) (fun _ _ _ h => h) (Or.inl ⟨by rfl, ?_⟩) ?_ ?_
          rotate_left
          · intro w'
            go_simp
            with_reducible rfl
          rotate_left
          · simp only [Act.put, List.setIfInBounds_toArray, List.set_cons_zero, List.set_cons_succ, i64_w, i32_w]
            rfl
          refine pure_ (i := 2) (N := some 9) (v := ?_) (a' := ?_) #[true, true, true, false, false, false, false, false, false, false, false, false, false, false] rfl rfl (any_of HT_.out (by kernel_rfl)) (fun _ _ _ h => h) (Or.inl ⟨by rfl, ?_⟩) ?_ ?_
          rotate_left
          · intro w'
            go_simp
            with_reducible rfl
          rotate_left
          · simp only [Act.put, List.setIfInBounds_toArray, List.set_cons_zero, List.set_cons_succ, i64_w, i32_w]
            rfl
          refine pure_ (i := 3) (N := some 10) (v := ?_) (a' := ?_) #[true, true, true, true, false, false, false, false, false, false, false, false, false, false] rfl rfl (any_of HT_.out (by kernel_rfl)) (fun _ _ _ h => h) (Or.inl ⟨by rfl, ?_⟩) ?_ ?_
          rotate_left
          · intro w'
            go_simp
            with_reducible rfl
          rotate_left
          · simp only [Act.put, List.setIfInBounds_toArray, List.set_cons_zero, List.set_cons_succ, i64_w, i32_w]
            rfl
          refine pure_ (i := 4) (N := some 11) (v := ?_) (a' := ?_) #[true, true, true, true, true, false, false, false, false, false, false, false, false, false] rfl rfl (any_of HT_.out (by kernel_rfl)) (fun _ _ _ h => h) (Or.inl ⟨by rfl, ?_⟩) ?_ ?_
          rotate_left
          · intro w'
            go_simp
            with_reducible rfl
          rotate_left
          · simp only [Act.put, List.setIfInBounds_toArray, List.set_cons_zero, List.set_cons_succ, i64_w, i32_w]
            rfl
          refine pure_ (i := 7) (N := some 14) (v := ?_) (a' := ?_) #[true, true, true, true, true, false, false, true, false, false, false, false, false, false] rfl rfl (any_of HT_.out (by kernel_rfl)) (fun _ _ _ h => h) (Or.inl ⟨by rfl, ?_⟩) ?_ ?_
          rotate_left
          · intro w'
            go_simp
            with_reducible rfl
          rotate_left
          · simp only [Act.put, List.setIfInBounds_toArray, List.set_cons_zero, List.set_cons_succ, i64_w, i32_w]
            rfl
          refine pure_ (i := 8) (N := some 15) (v := ?_) (a' := ?_) #[true, true, true, true, true, false, false, true, true, false, false, false, false, false] rfl rfl (any_of HT_.out (by kernel_rfl)) (fun _ _ _ h => h) (Or.inl ⟨by rfl, ?_⟩) ?_ ?_
          rotate_left
          · intro w'
            go_simp
            with_reducible rfl
          rotate_left
          · simp only [Act.put, List.setIfInBounds_toArray, List.set_cons_zero, List.set_cons_succ, i64_w, i32_w]
            rfl
          refine pure_ (i := 9) (N := some 16) (v := ?_) (a' := ?_) #[true, true, true, true, true, false, false, true, true, true, false, false, false, false] rfl rfl (any_of HT_.out (by kernel_rfl)) (fun _ _ _ h => h) (Or.inl ⟨by rfl, ?_⟩) ?_ ?_
          rotate_left
          · intro w'
            go_simp
            with_reducible rfl
          rotate_left
          · simp only [Act.put, List.setIfInBounds_toArray, List.set_cons_zero, List.set_cons_succ, i64_w, i32_w]
            rfl
          refine pure_ (i := 10) (N := some 17) (v := ?_) (a' := ?_) #[true, true, true, true, true, false, false, true, true, true, true, false, false, false] rfl rfl (any_of HT_.out (by kernel_rfl)) (fun _ _ _ h => h) (Or.inl ⟨by rfl, ?_⟩) ?_ ?_
          rotate_left
          · intro w'
            go_simp
            with_reducible rfl
          rotate_left
          · simp only [Act.put, List.setIfInBounds_toArray, List.set_cons_zero, List.set_cons_succ, i64_w, i32_w]
            rfl
          refine take_ (i := 5) (N := some 12) (v := ?_) (a' := ?_) #[true, true, true, true, true, true, false, true, true, true, true, false, false, false] rfl rfl (take_ofW HT_.out HW_.out (by kernel_rfl)) (fun _ _ _ h => h) (Or.inl ⟨by rfl, ?_⟩) hHeld ?_ ?_
          rotate_left
          · rintro w' ⟨s0, s1, s2, s3⟩
            go_simp
            with_reducible rfl
          rotate_left
          · simp only [Act.put, List.setIfInBounds_toArray, List.set_cons_zero, List.set_cons_succ, i64_w, i32_w]
            rfl
          refine take_ (i := 11) (N := some 18) (v := ?_) (a' := ?_) #[true, true, true, true, true, true, false, true, true, true, true, true, false, false] rfl rfl (take_ofW HT_.out HW_.out (by kernel_rfl)) (fun _ _ _ h => h) (Or.inl ⟨by rfl, ?_⟩) hHeld ?_ ?_
          rotate_left
          · rintro w' ⟨s0, s1, s2, s3⟩
            go_simp
            with_reducible rfl
          rotate_left
          · simp only [Act.put, List.setIfInBounds_toArray, List.set_cons_zero, List.set_cons_succ, i64_w, i32_w]
            rfl
          refine one_ (i := 6) (N := some 13) #[true, true, true, true, true, true, true, true, true, true, true, true, false, false] rfl rfl (one_of HT_.out (by kernel_rfl)) (by decide) (fun K hK => ?_)
          refine goes_ Try.func70 (by kernel_rfl) rfl #[.slice (some ad290) l0.length c0, .int .i64 ((rd_T38 l0 a1).f0)] (by rfl) rfl rfl (by (try simp only [List.map_toArray, List.map_cons, List.map_nil]); first | done | rfl | (simp only [List.length_drop, List.length_take]; rfl)) ?_
          with_reducible refine (ih k (by omega) _ _ l0 ((rd_T38 l0 a1).f0) t291 _ ?side1 ?side2 A6.out).mono ?_
          (case side1 => repeat (first | exact (Kd.C_below HR0.out HB.out) | (with_reducible refine Kd.C_alloc ?_ _) | (with_reducible refine Kd.C_drewN ?_ _) | (with_reducible refine Kd.C_drew ?_)))
          (case side2 => exact HC0.out)
          rintro e w9 ⟨v292, rfl, ho0, hb⟩
          refine ⟨_, rfl, ?_⟩
          have n0_ := Aside0.mk (Kd.R_lower ho0 (below_size (by repeat (first | (with_reducible first | exact HB.out | apply below_alloc | apply pw_below_drewN | apply below_drew1) | exact HB.out))))
          have n1_ := Aside0.mk (below_step (by repeat (first | (with_reducible first | exact HB.out | apply below_alloc | apply pw_below_drewN | apply below_drew1) | exact HB.out)) hb)
          clear HB
          have HO293 := n0_
          have HB := n1_
          clear n0_ n1_
          (try clear hb)
          (try clear hb2)
          (try clear hk)
          (try clear hi)
          (try clear ho0)
          refine hK.out _ _ ⟨((HB.out.cell (World.block_lt_of_cell? w _ hw290_0)).trans hw290_0), ((HB.out.cell (World.block_lt_of_cell? w _ hw290_1)).trans hw290_1), ((HB.out.cell (World.block_lt_of_cell? w _ hw294_0)).trans hw294_0), ((HB.out.cell (World.block_lt_of_cell? w _ hw294_1)).trans hw294_1)⟩ (fun hHeld => ?_)
          clear hK K
          refine norm_ (a' := ?_) ?_ ?_
          rotate_left
          · show Act.put _ (some 13) _ = _
            simp only [Act.put, List.setIfInBounds_toArray, List.set_cons_zero, List.set_cons_succ, i64_w, i32_w]
            rfl
          refine one_ (i := 12) (N := some 19) #[true, true, true, true, true, true, true, true, true, true, true, true, true, false] rfl rfl (one_of HT_.out (by kernel_rfl)) (by decide) (fun K hK => ?_)
          refine Kd.R_append_rows_step (Kd.int .i64) (w0 := w) w.heap.size (by rfl) (.tmp 13) (.tmp 18) 36 3 (.int .i64 0) 8 rfl Try.underlying36 info3 rfl (by decide) (by omega) v292 t291 ((rd_T38 l0 a1).f1) _ _ _ (fun _ => True) (fun _ => False) rfl rfl ?aO ?aR (fun _ _ h => h) (fun _ h => h.elim) ?aF ?aB ?aS ?aL ?_
          (case aR => repeat (first | exact (Kd.C_below HR294_1.out HB.out) | (with_reducible refine Kd.C_alloc ?_ _) | (with_reducible refine Kd.C_drewN ?_ _) | (with_reducible refine Kd.C_drew ?_)))
          (case aB => exact (by repeat (first | (with_reducible first | exact HB.out | apply below_alloc | apply pw_below_drewN | apply below_drew1) | exact HB.out)))
          (case aF => exact (fun _ _ => trivial))
          (case aO => exact (by (with_reducible repeat (first | apply Kd.R_alloc | apply Kd.R_drewN | apply Kd.R_drew)); exact HO293.out))
          (case aS => exact (below_size (by repeat (first | (with_reducible first | exact HB.out | apply below_alloc | apply pw_below_drewN | apply below_drew1) | exact HB.out))))
          (case aL => have := LMc7.out; omega)
          intro v296 w10 ho hb hg hat
          rw [← Ny295.out] at ho
          have n0_ := Aside0.mk (hb)
          have n1_ := Aside0.mk (ho)
          clear HB
          clear HO293
          have HB := n0_
          have HO297 := n1_
          clear n0_ n1_
          clear ho hb hg hat
          refine hK.out _ _ ⟨((HB.out.cell (World.block_lt_of_cell? w _ hw290_0)).trans hw290_0), ((HB.out.cell (World.block_lt_of_cell? w _ hw290_1)).trans hw290_1), ((HB.out.cell (World.block_lt_of_cell? w _ hw294_0)).trans hw294_0), ((HB.out.cell (World.block_lt_of_cell? w _ hw294_1)).trans hw294_1)⟩ (fun hHeld => ?_)
          clear hK K
          refine norm_ (a' := ?_) ?_ ?_
          rotate_left
          · show Act.put _ (some 19) _ = _
            simp only [Act.put, List.setIfInBounds_toArray, List.set_cons_zero, List.set_cons_succ, i64_w, i32_w]
            rfl
          refine pure_ (i := 13) (N := some 4) (v := ?_) (a' := ?_) #[true, true, true, true, true, true, true, true, true, true, true, true, true, true] rfl rfl (any_of HT_.out (by kernel_rfl)) (fun _ _ _ h => h) (Or.inl ⟨by rfl, ?_⟩) ?_ ?_
          rotate_left
          · intro w'
            go_simp
            with_reducible rfl
          rotate_left
          · simp only [Act.put, List.setIfInBounds_toArray, List.set_cons_zero, List.set_cons_succ, i64_w, i32_w]
            rfl
          refine done_ (done_of HT_.out (by kernel_rfl)) ?_
          try go_wp2
          go_ret
          exact ⟨_, by first | rfl | (simp [errW_none, errW_some] <;> rfl) | (simp [*, errW_none, errW_some] <;> rfl), by (with_reducible repeat (first | apply Kd.R_alloc | apply Kd.R_drewN | apply Kd.R_drew)); exact HO297.out, by repeat (first | (with_reducible first | exact HB.out | apply below_alloc | apply pw_below_drewN | apply below_drew1) | exact HB.out)⟩
        · rw [if_neg c7] at H
          exact absurd H (by simp)
      · rw [if_neg c5] at H
        exact absurd H (by simp)
    · rw [if_neg c4] at H
      exact absurd H (by simp)

end Go.Proofs.Ytgmjolngnhdafaa.P

end
section
namespace Go.Proofs.Ytgmjolngnhdafaa.P
open Go.RowKit Go.Proofs.YtgmjolngnhdafaaW.PrintWords Go.Proofs.YtgmjolngnhdafaaW.PrintLast Go.Proofs.YtgmjolngnhdafaaW.PrintMore
attribute [local go_sem] max2_int min2_int max_two min_two max_three min_three max_four min_four
set_option linter.unusedVariables false
set_option linter.unusedSimpArgs false

set_option maxHeartbeats 8000000 in
set_option maxRecDepth 100000 in
theorem impl_ClassFields.calls (k : Nat) (A0 : Option Addr) (c0 : Nat) (l0 : List (S38)) (a1 : Int) (r : List Int) (w : World) (hr0 : Kd.C k38 w A0 l0.length l0) (hc0 : l0.length ≤ c0) (h : impl_ClassFields.f k l0 a1 = some r) :
    Calls Try.prog 32 #[.slice A0 l0.length c0, .int .i64 a1] w fun e w' => ∃ v0_ : Value, e = .returned (v0_) ∧ Kd.R (Kd.int .i64) 3 w' w.heap.size (fun _ => True) v0_ r ∧ Below w.heap.size w w' := by
  have HR0 := Aside0.mk hr0
  have HC0 := Aside0.mk hc0
  clear hr0 hc0
  have HB := Aside0.mk (Below.refl w.heap.size w)
  have H : ((impl_ClassesOk.f k l0).bind fun t298 => (if t298 = true then ((impl_isClass.f l0 a1).bind fun t299 => (if t299 = true then ((impl_classFields.f k l0 a1).bind fun t300 => (some t300)) else (some ([] : List Int)))) else (some ([] : List Int)))) = some r := h
  clear h
  replace H := Option.bind_eq_some_iff.mp H
  obtain ⟨t298, A30, H⟩ := H
  replace H : (if t298 = true then ((impl_isClass.f l0 a1).bind fun t299 => (if t299 = true then ((impl_classFields.f k l0 a1).bind fun t300 => (some t300)) else (some ([] : List Int)))) else (some ([] : List Int))) = some r := H
  have A3 := Aside0.mk A30
  clear A30
  by_cases c4 : t298 = true
  · subst c4
    have H1 : ((impl_isClass.f l0 a1).bind fun t299 => (if t299 = true then ((impl_classFields.f k l0 a1).bind fun t300 => (some t300)) else (some ([] : List Int)))) = some r := by rw [if_pos rfl] at H; exact H
    clear H
    have H := H1
    clear H1
    replace H := Option.bind_eq_some_iff.mp H
    obtain ⟨t299, A50, H⟩ := H
    replace H : (if t299 = true then ((impl_classFields.f k l0 a1).bind fun t300 => (some t300)) else (some ([] : List Int))) = some r := H
    have A5 := Aside0.mk A50
    clear A50
    by_cases c6 : t299 = true
    · subst c6
      have H1 : ((impl_classFields.f k l0 a1).bind fun t300 => (some t300)) = some r := by rw [if_pos rfl] at H; exact H
      clear H
      have H := H1
      clear H1
      replace H := Option.bind_eq_some_iff.mp H
      obtain ⟨t300, A70, H⟩ := H
      replace H : (some t300) = some r := H
      have A7 := Aside0.mk A70
      clear A70
      obtain rfl := Option.some.inj H
      simp only [Option.some.injEq, Prod.mk.injEq] at H
      obtain ⟨rfl⟩ := H
      go_enter Try.func32, Try.ntmps32
      go_wp2_with (first | ((with_reducible refine gate_callee (f := 23) rfl ?_); refine goesL_ (some 6) rfl rfl Try.func23 (by kernel_rfl) rfl #[.slice A0 l0.length c0] rfl (by (try simp only [List.map_toArray, List.map_cons, List.map_nil]); first | done | rfl | (simp only [List.length_drop, List.length_take]; rfl)) ?_; (with_reducible refine (impl_ClassesOk.calls k _ _ l0 true _ ?side1 ?side2 A3.out).mono ?_); (case side1 => repeat (first | exact HR0.out | (with_reducible refine Kd.C_alloc ?_ _) | (with_reducible refine Kd.C_drewN ?_ _) | (with_reducible refine Kd.C_drew ?_))); (case side2 => exact HC0.out); rintro e w8 ⟨rfl, hb⟩; refine ⟨_, rfl, ?_⟩; have n0_ := Aside0.mk (below_step (by repeat (first | (with_reducible first | exact HB.out | apply below_alloc | apply pw_below_drewN | apply below_drew1) | exact HB.out)) hb); clear HB; have HB := n0_; clear n0_; (try clear hb); (try clear hb2); (try clear hk); (try clear hi)) | (go_at_call 66; (with_reducible refine (impl_isClass.calls _ _ l0 a1 true _ ?side1 ?side2 A5.out).mono ?_); (case side1 => repeat (first | exact (Kd.C_below HR0.out HB.out) | (with_reducible refine Kd.C_alloc ?_ _) | (with_reducible refine Kd.C_drewN ?_ _) | (with_reducible refine Kd.C_drew ?_))); (case side2 => exact HC0.out); rintro e w' ⟨rfl, ⟨nd, rfl⟩⟩) | ((with_reducible refine gate_callee (f := 70) rfl ?_); refine goesL_ (some 16) rfl rfl Try.func70 (by kernel_rfl) rfl #[.slice A0 l0.length c0, .int .i64 a1] rfl (by (try simp only [List.map_toArray, List.map_cons, List.map_nil]); first | done | rfl | (simp only [List.length_drop, List.length_take]; rfl)) ?_; (with_reducible refine (impl_classFields.calls k _ _ l0 a1 t300 _ ?side1 ?side2 A7.out).mono ?_); (case side1 => repeat (first | exact (Kd.C_below HR0.out (by repeat (first | (with_reducible first | exact HB.out | apply below_alloc | apply pw_below_drewN | apply below_drew1) | exact HB.out))) | (with_reducible refine Kd.C_alloc ?_ _) | (with_reducible refine Kd.C_drewN ?_ _) | (with_reducible refine Kd.C_drew ?_))); (case side2 => exact HC0.out); rintro e w9 ⟨v301, rfl, ho0, hb⟩; refine ⟨_, rfl, ?_⟩; have n0_ := Aside0.mk (Kd.R_lower ho0 (below_size (by repeat (first | (with_reducible first | exact HB.out | apply below_alloc | apply pw_below_drewN | apply below_drew1) | exact HB.out)))); have n1_ := Aside0.mk (below_step (by repeat (first | (with_reducible first | exact HB.out | apply below_alloc | apply pw_below_drewN | apply below_drew1) | exact HB.out)) hb); clear HB; have HO302 := n0_; have HB := n1_; clear n0_ n1_; (try clear hb); (try clear hb2); (try clear hk); (try clear hi); (try clear ho0)))
      go_ret
      exact ⟨_, by first | rfl | (simp [errW_none, errW_some] <;> rfl) | (simp [*, errW_none, errW_some] <;> rfl), by (with_reducible repeat (first | apply Kd.R_alloc | apply Kd.R_drewN | apply Kd.R_drew)); exact HO302.out, by repeat (first | (with_reducible first | exact HB.out | apply below_alloc | apply pw_below_drewN | apply below_drew1) | exact HB.out)⟩
    · replace c6 := Bool.eq_false_iff.mpr c6
      subst c6
      have H1 : (some ([] : List Int)) = some r := by rw [if_neg (show ¬ (false = true) by decide)] at H; exact H
      clear H
      have H := H1
      clear H1
      obtain rfl := Option.some.inj H
      simp only [Option.some.injEq, Prod.mk.injEq] at H
      obtain ⟨rfl⟩ := H
      go_enter Try.func32, Try.ntmps32
      go_wp2_with (first | ((with_reducible refine gate_callee (f := 23) rfl ?_); refine goesL_ (some 6) rfl rfl Try.func23 (by kernel_rfl) rfl #[.slice A0 l0.length c0] rfl (by (try simp only [List.map_toArray, List.map_cons, List.map_nil]); first | done | rfl | (simp only [List.length_drop, List.length_take]; rfl)) ?_; (with_reducible refine (impl_ClassesOk.calls k _ _ l0 true _ ?side1 ?side2 A3.out).mono ?_); (case side1 => repeat (first | exact HR0.out | (with_reducible refine Kd.C_alloc ?_ _) | (with_reducible refine Kd.C_drewN ?_ _) | (with_reducible refine Kd.C_drew ?_))); (case side2 => exact HC0.out); rintro e w10 ⟨rfl, hb⟩; refine ⟨_, rfl, ?_⟩; have n0_ := Aside0.mk (below_step (by repeat (first | (with_reducible first | exact HB.out | apply below_alloc | apply pw_below_drewN | apply below_drew1) | exact HB.out)) hb); clear HB; have HB := n0_; clear n0_; (try clear hb); (try clear hb2); (try clear hk); (try clear hi)) | (go_at_call 66; (with_reducible refine (impl_isClass.calls _ _ l0 a1 false _ ?side1 ?side2 A5.out).mono ?_); (case side1 => repeat (first | exact (Kd.C_below HR0.out HB.out) | (with_reducible refine Kd.C_alloc ?_ _) | (with_reducible refine Kd.C_drewN ?_ _) | (with_reducible refine Kd.C_drew ?_))); (case side2 => exact HC0.out); rintro e w' ⟨rfl, ⟨nd, rfl⟩⟩))
      go_ret
      exact ⟨_, by first | rfl | (simp [errW_none, errW_some] <;> rfl) | (simp [*, errW_none, errW_some] <;> rfl), by first | exact Kd.R_nil _ _ _ _ _ | exact Kd.N_nil _ _ _ _ _ | exact Kd.V_nil _ _ _ _ _ | exact Kd.Q_nil _ _ _ _ _ | exact Kd.S_nil _ _ _ _ _, by repeat (first | (with_reducible first | exact HB.out | apply below_alloc | apply pw_below_drewN | apply below_drew1) | exact HB.out)⟩
  · replace c4 := Bool.eq_false_iff.mpr c4
    subst c4
    have H1 : (some ([] : List Int)) = some r := by rw [if_neg (show ¬ (false = true) by decide)] at H; exact H
    clear H
    have H := H1
    clear H1
    obtain rfl := Option.some.inj H
    simp only [Option.some.injEq, Prod.mk.injEq] at H
    obtain ⟨rfl⟩ := H
    go_enter Try.func32, Try.ntmps32
    go_wp2_with (first | ((with_reducible refine gate_callee (f := 23) rfl ?_); refine goesL_ (some 6) rfl rfl Try.func23 (by kernel_rfl) rfl #[.slice A0 l0.length c0] rfl (by (try simp only [List.map_toArray, List.map_cons, List.map_nil]); first | done | rfl | (simp only [List.length_drop, List.length_take]; rfl)) ?_; (with_reducible refine (impl_ClassesOk.calls k _ _ l0 false _ ?side1 ?side2 A3.out).mono ?_); (case side1 => repeat (first | exact HR0.out | (with_reducible refine Kd.C_alloc ?_ _) | (with_reducible refine Kd.C_drewN ?_ _) | (with_reducible refine Kd.C_drew ?_))); (case side2 => exact HC0.out); rintro e w11 ⟨rfl, hb⟩; refine ⟨_, rfl, ?_⟩; have n0_ := Aside0.mk (below_step (by repeat (first | (with_reducible first | exact HB.out | apply below_alloc | apply pw_below_drewN | apply below_drew1) | exact HB.out)) hb); clear HB; have HB := n0_; clear n0_; (try clear hb); (try clear hb2); (try clear hk); (try clear hi)))
    go_ret
    exact ⟨_, by first | rfl | (simp [errW_none, errW_some] <;> rfl) | (simp [*, errW_none, errW_some] <;> rfl), by first | exact Kd.R_nil _ _ _ _ _ | exact Kd.N_nil _ _ _ _ _ | exact Kd.V_nil _ _ _ _ _ | exact Kd.Q_nil _ _ _ _ _ | exact Kd.S_nil _ _ _ _ _, by repeat (first | (with_reducible first | exact HB.out | apply below_alloc | apply pw_below_drewN | apply below_drew1) | exact HB.out)⟩

end Go.Proofs.Ytgmjolngnhdafaa.P

end
section
namespace Go.Proofs.Ytgmjolngnhdafaa.P
open Go.RowKit Go.Proofs.YtgmjolngnhdafaaW.PrintWords Go.Proofs.YtgmjolngnhdafaaW.PrintLast Go.Proofs.YtgmjolngnhdafaaW.PrintMore
attribute [local go_sem] max2_int min2_int max_two min_two max_three min_three max_four min_four
set_option linter.unusedVariables false
set_option linter.unusedSimpArgs false

set_option maxHeartbeats 8000000 in
set_option maxRecDepth 100000 in
theorem laws_leInts.calls (k : Nat) (A0 : Option Addr) (c0 : Nat) (l0 : List Int) (A1 : Option Addr) (c1 : Nat) (l1 : List Int) (r : Bool) (w : World) (hr0 : Kd.C (Kd.int .i64) w A0 l0.length l0) (hc0 : l0.length ≤ c0) (hr1 : Kd.C (Kd.int .i64) w A1 l1.length l1) (hc1 : l1.length ≤ c1) (h : laws_leInts.f k l0 l1 = some r) :
    Calls Try.prog 33 #[.slice A0 l0.length c0, .slice A1 l1.length c1] w fun e w' => e = .returned (.bool r) ∧ Drawn0 w w' := by
  have HR0 := Aside0.mk hr0
  have HC0 := Aside0.mk hc0
  clear hr0 hc0
  have HR1 := Aside0.mk hr1
  have HC1 := Aside0.mk hc1
  clear hr1 hc1
  have H : (if (l0.length : Int) = (l1.length : Int) then (laws_leInts.l0 k l0 l1 0) else (some false)) = some r := h
  clear h
  by_cases c3 : (l0.length : Int) = (l1.length : Int)
  · rw [if_pos c3] at H
    have c3b0 : ((l0.length : Int) == (l1.length : Int)) = true := beq_iff_eq.mpr c3
    have c3b1 : ((l0.length : Int) != (l1.length : Int)) = false := bne_eq_false_iff_eq.mpr c3
    have c3b2 : (l0.length == l1.length) = true := by first | simpa using c3 | (simp at c3 ⊢; omega)
    clear c3
    have H' := Aside0.mk H
    clear H
    go_enter Try.func33, Try.ntmps33
    go_wp2
    repeat (go_quiet (fail); try go_wp2)
    go_loopg [5] k (fun kq v5 w' => ∃ (x5_1 : Int), v5 = .int .i64 x5_1 ∧ Aside0 (laws_leInts.l0 kq l0 l1 x5_1 = some r) ∧ Aside0 (kq ≤ k) ∧ Drawn0 w w')
    case atStart => exact ⟨(0), (by first | rfl | (simp; done) | (simp [*]; done)), H', ⟨Nat.le_refl _⟩, by repeat (first | exact Drawn0.refl _ | apply Drawn0.step)⟩
    case round =>
      clear H'
      try clear c1
      try clear p2
      try clear c3
      try clear c3b0
      try clear c3b1
      try clear c3b2
      obtain ⟨x5_1, rfl, HA, HK1, ⟨m1, rfl⟩⟩ := hrel
      cases gk with
      | zero => exact absurd HA.out (by simp [laws_leInts.l0])
      | succ k1 =>
        have H := HA.out
        clear HA
        simp only [laws_leInts.l0] at H
        by_cases c4 : x5_1 < (l0.length : Int)
        · rw [if_pos c4] at H
          have c4b0 : decide (x5_1 < (l0.length : Int)) = true := decide_eq_true c4
          clear c4
          by_cases c5 : 0 ≤ x5_1
          · rw [if_pos c5] at H
            have c5b0 : decide (0 ≤ x5_1) = true := decide_eq_true c5
            clear c5
            by_cases c6 : x5_1 < (l1.length : Int)
            · rw [if_pos c6] at H
              have c6b0 : decide (x5_1 < (l1.length : Int)) = true := decide_eq_true c6
              clear c6
              by_cases c7 : (rd l0 x5_1) = (rd l1 x5_1)
              · rw [if_pos c7] at H
                have c7b0 : ((rd l0 x5_1) == (rd l1 x5_1)) = true := beq_iff_eq.mpr c7
                have c7b1 : ((rd l0 x5_1) != (rd l1 x5_1)) = false := bne_eq_false_iff_eq.mpr c7
                clear c7
                have H' := Aside0.mk H
                clear H
                have p303 : 0 ≤ (x5_1 : Int) := of_decide_eq_true (by first | (with_reducible assumption) | assumption)
                have q303 : x5_1 < (l0.length : Int) := of_decide_eq_true (by first | (with_reducible assumption) | assumption)
                obtain ⟨ad303, e303, hx303_0⟩ := Kd.at_int HR0.out x5_1 p303 q303
                cases e303
                replace p303 := eq_true p303
                replace q303 := eq_true q303
                have p304 : 0 ≤ (x5_1 : Int) := of_decide_eq_true (by first | (with_reducible assumption) | assumption)
                have q304 : x5_1 < (l1.length : Int) := of_decide_eq_true (by first | (with_reducible assumption) | assumption)
                obtain ⟨ad304, e304, hx304_0⟩ := Kd.at_int HR1.out x5_1 p304 q304
                cases e304
                replace p304 := eq_true p304
                replace q304 := eq_true q304
                go_wp2
                repeat (go_quiet (fail); try go_wp2)
                go_roundg k1
                case measure => have := HK1.out; omega
                case rel => exact ⟨(wrap64 (x5_1 + 1)), (by first | rfl | (simp; done) | (simp [*]; done)), H', ⟨by have := HK1.out; omega⟩, by repeat (first | exact Drawn0.refl _ | apply Drawn0.step)⟩
              · rw [if_neg c7] at H
                have c7b0 : ((rd l0 x5_1) == (rd l1 x5_1)) = false := beq_eq_false_iff_ne.mpr c7
                have c7b1 : ((rd l0 x5_1) != (rd l1 x5_1)) = true := bne_iff_ne.mpr c7
                obtain rfl := Option.some.inj H
                simp only [Option.some.injEq, Prod.mk.injEq] at H
                obtain ⟨rfl⟩ := H
                have p303 : 0 ≤ (x5_1 : Int) := of_decide_eq_true (by first | (with_reducible assumption) | assumption)
                have q303 : x5_1 < (l0.length : Int) := of_decide_eq_true (by first | (with_reducible assumption) | assumption)
                obtain ⟨ad303, e303, hx303_0⟩ := Kd.at_int HR0.out x5_1 p303 q303
                cases e303
                replace p303 := eq_true p303
                replace q303 := eq_true q303
                have p304 : 0 ≤ (x5_1 : Int) := of_decide_eq_true (by first | (with_reducible assumption) | assumption)
                have q304 : x5_1 < (l1.length : Int) := of_decide_eq_true (by first | (with_reducible assumption) | assumption)
                obtain ⟨ad304, e304, hx304_0⟩ := Kd.at_int HR1.out x5_1 p304 q304
                cases e304
                replace p304 := eq_true p304
                replace q304 := eq_true q304
                go_wp2
                repeat (go_quiet (fail); try go_wp2)
                go_ret
                exact ⟨by first | rfl | (simp; done) | (simp [*]; done), by repeat (first | exact Drawn0.refl _ | apply Drawn0.step)⟩
            · rw [if_neg c6] at H
              exact absurd H (by simp)
          · rw [if_neg c5] at H
            exact absurd H (by simp)
        · rw [if_neg c4] at H
          have c4b0 : decide (x5_1 < (l0.length : Int)) = false := decide_eq_false c4
          clear c4
          obtain rfl := Option.some.inj H
          simp only [Option.some.injEq, Prod.mk.injEq] at H
          obtain ⟨rfl⟩ := H
          go_wp2
          repeat (go_quiet (fail); try go_wp2)
          go_ret
          exact ⟨by first | rfl | (simp; done) | (simp [*]; done), by repeat (first | exact Drawn0.refl _ | apply Drawn0.step)⟩
  · rw [if_neg c3] at H
    have c3b0 : ((l0.length : Int) == (l1.length : Int)) = false := beq_eq_false_iff_ne.mpr c3
    have c3b1 : ((l0.length : Int) != (l1.length : Int)) = true := bne_iff_ne.mpr c3
    have c3b2 : (l0.length == l1.length) = false := by first | simpa using c3 | (simp at c3 ⊢; omega)
    obtain rfl := Option.some.inj H
    simp only [Option.some.injEq, Prod.mk.injEq] at H
    obtain ⟨rfl⟩ := H
    go_enter Try.func33, Try.ntmps33
    go_wp2
    repeat (go_quiet (fail); try go_wp2)
    go_ret
    exact ⟨by first | rfl | (simp; done) | (simp [*]; done), by repeat (first | exact Drawn0.refl _ | apply Drawn0.step)⟩

end Go.Proofs.Ytgmjolngnhdafaa.P

end
section
namespace Go.Proofs.Ytgmjolngnhdafaa.P
open Go Go.RowKit Go.Proofs.YtgmjolngnhdafaaW.PrintWords Go.Proofs.YtgmjolngnhdafaaW.PrintLast Go.Proofs.YtgmjolngnhdafaaW.PrintMore
set_option linter.unusedVariables false
set_option linter.unusedSimpArgs false
theorem cell_drewN {w : World} {p : Addr} {v : Value} (h : w.cell? p = some v) (m : Nat) : (w.drewN m).cell? p = some v := ((pw_below_drewN (Below.refl w.heap.size w) m).cell (World.block_lt_of_cell? w _ h)).trans h
set_option maxHeartbeats 8000000 in
set_option maxRecDepth 100000 in
theorem joinBoth.calls (k : Nat) (A0 : Option Addr) (c0 : Nat) (l0 : List S38) (a b c : Int) (r : Bool) (w : World) (g1 g2 g3 : Nat) (hr0 : Kd.C k38 w A0 l0.length l0) (hc0 : l0.length ≤ c0)
    (h1 : w.cell? ⟨g1, 0, none⟩ = some (.slice A0 l0.length c0)) (h2 : w.cell? ⟨g2, 0, none⟩ = some (.int .i64 a)) (h3 : w.cell? ⟨g3, 0, none⟩ = some (.int .i64 b)) (h : joinBoth.f k l0 a b c = some r) :
    Calls Try.prog 75 #[.int .i64 c, .pointer (some ⟨g1, 0, none⟩), .pointer (some ⟨g2, 0, none⟩), .pointer (some ⟨g3, 0, none⟩)] w fun e w' => e = .returned (.bool r) ∧ Drawn0 w w' := by
  have HR0 := Aside0.mk hr0
  have HC0 := Aside0.mk hc0
  clear hr0 hc0
  have H : ((impl_classUp.f k l0 a c).bind fun t1 => (if t1 = true then ((impl_classUp.f k l0 b c).bind fun t2 => (some t2)) else (some false))) = some r := h
  clear h
  replace H := Option.bind_eq_some_iff.mp H
  obtain ⟨t1, A40, H⟩ := H
  have A4 := Aside0.mk A40
  clear A40
  have d1 := fun m => cell_drewN h1 m
  have d3 := fun m => cell_drewN h3 m
  by_cases c5 : t1 = true
  · subst c5
    rw [if_pos rfl] at H
    replace H := Option.bind_eq_some_iff.mp H
    obtain ⟨t2, A60, H⟩ := H
    have A6 := Aside0.mk A60
    clear A60
    obtain rfl := Option.some.inj H
    clear H
    go_enter Try.func75, Try.ntmps75
    go_wp2_with (first | (go_at_call 67; (with_reducible refine (impl_classUp.calls k _ _ l0 a c true _ ?side1 ?side2 A4.out).mono ?_); (case side1 => repeat (first | exact HR0.out | (with_reducible refine Kd.C_alloc ?_ _) | (with_reducible refine Kd.C_drewN ?_ _) | (with_reducible refine Kd.C_drew ?_))); (case side2 => exact HC0.out); rintro e w' ⟨rfl, ⟨nd, rfl⟩⟩) | (go_at_call 67; (with_reducible refine (impl_classUp.calls k _ _ l0 b c t2 _ ?side1 ?side2 A6.out).mono ?_); (case side1 => repeat (first | exact HR0.out | (with_reducible refine Kd.C_alloc ?_ _) | (with_reducible refine Kd.C_drewN ?_ _) | (with_reducible refine Kd.C_drew ?_))); (case side2 => exact HC0.out); rintro e w' ⟨rfl, ⟨nd, rfl⟩⟩))
    go_ret
    exact ⟨by first | rfl | (simp; done) | (simp [*]; done), by repeat (first | exact Drawn0.refl _ | apply Drawn0.step)⟩
  · replace c5 := Bool.eq_false_iff.mpr c5
    subst c5
    rw [if_neg (by decide)] at H
    obtain rfl := Option.some.inj H
    clear H
    go_enter Try.func75, Try.ntmps75
    go_wp2_with (first | (go_at_call 67; (with_reducible refine (impl_classUp.calls k _ _ l0 a c false _ ?side1 ?side2 A4.out).mono ?_); (case side1 => repeat (first | exact HR0.out | (with_reducible refine Kd.C_alloc ?_ _) | (with_reducible refine Kd.C_drewN ?_ _) | (with_reducible refine Kd.C_drew ?_))); (case side2 => exact HC0.out); rintro e w' ⟨rfl, ⟨nd, rfl⟩⟩))
    go_ret
    exact ⟨by first | rfl | (simp; done) | (simp [*]; done), by repeat (first | exact Drawn0.refl _ | apply Drawn0.step)⟩
set_option maxHeartbeats 8000000 in
set_option maxRecDepth 100000 in
theorem joinUnder.calls (k : Nat) (A0 : Option Addr) (c0 : Nat) (l0 : List S38) (c d : Int) (r : Bool) (w : World) (g1 : Nat) (hr0 : Kd.C k38 w A0 l0.length l0) (hc0 : l0.length ≤ c0)
    (h1 : w.cell? ⟨g1, 0, none⟩ = some (.slice A0 l0.length c0)) (h : impl_classUp.f k l0 c d = some r) :
    Calls Try.prog 76 #[.int .i64 c, .int .i64 d, .pointer (some ⟨g1, 0, none⟩)] w fun e w' => e = .returned (.bool r) ∧ Drawn0 w w' := by
  have HR0 := Aside0.mk hr0
  have HC0 := Aside0.mk hc0
  clear hr0 hc0
  have A4 := Aside0.mk h
  clear h
  go_enter Try.func76, Try.ntmps76
  go_wp2_with (first | (go_at_call 67; (with_reducible refine (impl_classUp.calls k _ _ l0 c d r _ ?side1 ?side2 A4.out).mono ?_); (case side1 => repeat (first | exact HR0.out | (with_reducible refine Kd.C_alloc ?_ _) | (with_reducible refine Kd.C_drewN ?_ _) | (with_reducible refine Kd.C_drew ?_))); (case side2 => exact HC0.out); rintro e w' ⟨rfl, ⟨nd, rfl⟩⟩))
  go_ret
  exact ⟨by first | rfl | (simp; done) | (simp [*]; done), by repeat (first | exact Drawn0.refl _ | apply Drawn0.step)⟩
end Go.Proofs.Ytgmjolngnhdafaa.P

end
section
namespace Go.Proofs.Ytgmjolngnhdafaa.P
open Go Go.RowKit Go.Proofs.YtgmjolngnhdafaaW.PrintWords Go.Proofs.YtgmjolngnhdafaaW.PrintLast Go.Proofs.YtgmjolngnhdafaaW.PrintMore
set_option linter.unusedVariables false
set_option linter.unusedSimpArgs false
set_option maxHeartbeats 8000000 in
set_option maxRecDepth 100000 in
theorem impl_nearest.calls (k : Nat) (A0 : Option Addr) (c0 : Nat) (l0 : List S38) (a b : Int) (B0 : Option Addr) (cb : Nat) (xs : List Int) (r1 : Int) (r2 : Bool) (w : World) (g1 g2 g3 : Nat) (hr0 : Kd.C k38 w A0 l0.length l0) (hc0 : l0.length ≤ c0)
    (hb0 : Kd.C (Kd.int .i64) w B0 xs.length xs) (hcb : xs.length ≤ cb)
    (h1 : w.cell? ⟨g1, 0, none⟩ = some (.slice A0 l0.length c0)) (h2 : w.cell? ⟨g2, 0, none⟩ = some (.int .i64 a)) (h3 : w.cell? ⟨g3, 0, none⟩ = some (.int .i64 b)) (h : impl_nearest.f k l0 a b xs = some (r1, r2)) :
    Calls Try.prog 77 #[.slice B0 xs.length cb, .func (.func 75) #[] #[.pointer (some ⟨g1, 0, none⟩), .pointer (some ⟨g2, 0, none⟩), .pointer (some ⟨g3, 0, none⟩)], .func (.func 76) #[] #[.pointer (some ⟨g1, 0, none⟩)]] w fun e w' => e = .returned (.tuple #[.int .i64 r1, .bool r2]) ∧ Drawn0 w w' := by
  have HR0 := Aside0.mk hr0
  have HC0 := Aside0.mk hc0
  have HB0 := Aside0.mk hb0
  have HD0 := Aside0.mk hcb
  have G1 := Aside0.mk h1
  have G2 := Aside0.mk h2
  have G3 := Aside0.mk h3
  clear hr0 hc0 hb0 hcb h1 h2 h3
  have H' := Aside0.mk (show impl_nearest.l0 k l0 a b xs 0 = some (r1, r2) from h)
  clear h
  go_enter Try.func77, Try.ntmps77
  go_wp2
  go_loopg [16] k (fun kq v16 w' => ∃ (x16 : Int), v16 = .int .i64 x16 ∧ Aside0 (impl_nearest.l0 kq l0 a b xs x16 = some (r1, r2)) ∧ Aside0 (kq ≤ k) ∧ Drawn0 w w')
  case atStart => exact ⟨(0), (by first | rfl | (simp; done) | (simp [*]; done)), H', ⟨Nat.le_refl _⟩, by repeat (first | exact Drawn0.refl _ | apply Drawn0.step)⟩
  case round =>
    clear H'
    try clear p2
    obtain ⟨x16, rfl, HA, HK1, ⟨m1, rfl⟩⟩ := hrel
    cases gk with
    | zero => exact absurd HA.out (by simp [impl_nearest.l0])
    | succ k1 =>
      have H := HA.out
      clear HA
      simp only [impl_nearest.l0] at H
      by_cases c4 : x16 < (xs.length : Int)
      · rw [if_pos c4] at H
        have c4b0 : decide (x16 < (xs.length : Int)) = true := decide_eq_true c4
        by_cases c5 : 0 ≤ x16
        · rw [if_pos c5] at H
          have c5b0 : decide (0 ≤ x16) = true := decide_eq_true c5
          replace H := Option.bind_eq_some_iff.mp H
          obtain ⟨t1, A60, H⟩ := H
          have A6 := Aside0.mk A60
          clear A60
          obtain ⟨ad7, e7, hx7⟩ := Kd.at_int HB0.out x16 c5 c4
          cases e7
          replace c4 := eq_true c4
          replace c5 := eq_true c5
          by_cases c6 : t1 = true
          · subst c6
            rw [if_pos rfl] at H
            have H' := Aside0.mk H
            clear H
            go_wp2_with (first | (go_loud (refine (joinBoth.calls k1 _ _ l0 a b (rd xs x16) true _ g1 g2 g3 (Kd.C_drewN HR0.out _) HC0.out (cell_drewN G1.out _) (cell_drewN G2.out _) (cell_drewN G3.out _) A6.out).mono ?_; rintro e w' ⟨rfl, ⟨nd, rfl⟩⟩)))
            go_loopg [10, 26] k1 (fun kq v10 v26 w' => ∃ (x26 : Int), v10 = .bool true ∧ v26 = .int .i64 x26 ∧ Aside0 (impl_nearest.l1 kq l0 a b xs x16 (rd xs x16) x26 = some (r1, r2)) ∧ Aside0 (kq ≤ k1) ∧ Drawn0 w w')
            case atStart => exact ⟨(0), (by first | rfl | (simp; done) | (simp [*]; done)), (by first | rfl | (simp; done) | (simp [*]; done)), H', ⟨Nat.le_refl _⟩, by repeat (first | exact Drawn0.refl _ | apply Drawn0.step)⟩
            case round =>
              clear H'
              try clear p2
              obtain ⟨x26, rfl, rfl, HA, HK2, ⟨m2, rfl⟩⟩ := hrel
              cases gk with
              | zero => exact absurd HA.out (by simp [impl_nearest.l1])
              | succ k2 =>
                have H := HA.out
                clear HA
                simp only [impl_nearest.l1] at H
                by_cases c14 : x26 < (xs.length : Int)
                · rw [if_pos c14] at H
                  have c14b0 : decide (x26 < (xs.length : Int)) = true := decide_eq_true c14
                  by_cases c15 : 0 ≤ x26
                  · rw [if_pos c15] at H
                    have c15b0 : decide (0 ≤ x26) = true := decide_eq_true c15
                    replace H := Option.bind_eq_some_iff.mp H
                    obtain ⟨t2, A160, H⟩ := H
                    have A16 := Aside0.mk A160
                    clear A160
                    obtain ⟨ad8, e8, hx8⟩ := Kd.at_int HB0.out x26 c15 c14
                    cases e8
                    replace c14 := eq_true c14
                    replace c15 := eq_true c15
                    by_cases c16 : t2 = true
                    · subst c16
                      rw [if_pos rfl] at H
                      replace H := Option.bind_eq_some_iff.mp H
                      obtain ⟨u2, A180, H⟩ := H
                      have A18 := Aside0.mk A180
                      clear A180
                      by_cases c18 : u2 = true
                      · subst c18
                        rw [if_pos rfl] at H
                        have H' := Aside0.mk H
                        clear H
                        go_wp2_with (first | (go_loud (refine (joinBoth.calls k2 _ _ l0 a b (rd xs x26) true _ g1 g2 g3 (Kd.C_drewN HR0.out _) HC0.out (cell_drewN G1.out _) (cell_drewN G2.out _) (cell_drewN G3.out _) A16.out).mono ?_; rintro e w' ⟨rfl, ⟨nd, rfl⟩⟩)) | (go_loud (refine (joinUnder.calls k2 _ _ l0 (rd xs x16) (rd xs x26) true _ g1 (by repeat (first | exact HR0.out | refine Kd.C_drewN ?_ _)) HC0.out (by repeat (first | exact G1.out | refine cell_drewN ?_ _)) A18.out).mono ?_; rintro e w' ⟨rfl, ⟨nd, rfl⟩⟩)))
                        go_roundg k2
                        case measure => have := HK1.out; have := HK2.out; omega
                        case rel => exact ⟨(wrap64 (x26 + 1)), (by first | rfl | (simp; done) | (simp [*]; done)), (by first | rfl | (simp; done) | (simp [*]; done)), H', ⟨by have := HK1.out; have := HK2.out; omega⟩, by repeat (first | exact Drawn0.refl _ | apply Drawn0.step)⟩
                      · replace c18 := Bool.eq_false_iff.mpr c18
                        subst c18
                        rw [if_neg (by decide)] at H
                        have H' := Aside0.mk H
                        clear H
                        go_wp2_with (first | (go_loud (refine (joinBoth.calls k2 _ _ l0 a b (rd xs x26) true _ g1 g2 g3 (Kd.C_drewN HR0.out _) HC0.out (cell_drewN G1.out _) (cell_drewN G2.out _) (cell_drewN G3.out _) A16.out).mono ?_; rintro e w' ⟨rfl, ⟨nd, rfl⟩⟩)) | (go_loud (refine (joinUnder.calls k2 _ _ l0 (rd xs x16) (rd xs x26) false _ g1 (by repeat (first | exact HR0.out | refine Kd.C_drewN ?_ _)) HC0.out (by repeat (first | exact G1.out | refine cell_drewN ?_ _)) A18.out).mono ?_; rintro e w' ⟨rfl, ⟨nd, rfl⟩⟩)))
                        go_roundg k2
                        case measure => have := HK1.out; have := HK2.out; omega
                        case rel => exact ⟨(wrap64 (x16 + 1)), (by first | rfl | (simp; done) | (simp [*]; done)), H', ⟨by have := HK1.out; have := HK2.out; omega⟩, by repeat (first | exact Drawn0.refl _ | apply Drawn0.step)⟩
                    · replace c16 := Bool.eq_false_iff.mpr c16
                      subst c16
                      rw [if_neg (by decide)] at H
                      have H' := Aside0.mk H
                      clear H
                      go_wp2_with (first | (go_loud (refine (joinBoth.calls k2 _ _ l0 a b (rd xs x26) false _ g1 g2 g3 (Kd.C_drewN HR0.out _) HC0.out (cell_drewN G1.out _) (cell_drewN G2.out _) (cell_drewN G3.out _) A16.out).mono ?_; rintro e w' ⟨rfl, ⟨nd, rfl⟩⟩)))
                      go_roundg k2
                      case measure => have := HK1.out; have := HK2.out; omega
                      case rel => exact ⟨(wrap64 (x26 + 1)), (by first | rfl | (simp; done) | (simp [*]; done)), (by first | rfl | (simp; done) | (simp [*]; done)), H', ⟨by have := HK1.out; have := HK2.out; omega⟩, by repeat (first | exact Drawn0.refl _ | apply Drawn0.step)⟩
                  · rw [if_neg c15] at H
                    exact absurd H (by simp)
                · rw [if_neg c14] at H
                  have c14b0 : decide (x26 < (xs.length : Int)) = false := decide_eq_false c14
                  clear c14
                  simp only [Option.some.injEq, Prod.mk.injEq] at H
                  obtain ⟨rfl, rfl⟩ := H
                  go_wp2
                  go_ret2
                  exact ⟨by first | rfl | (simp; done) | (simp [*]; done), by repeat (first | exact Drawn0.refl _ | apply Drawn0.step)⟩
          · replace c6 := Bool.eq_false_iff.mpr c6
            subst c6
            rw [if_neg (by decide)] at H
            have H' := Aside0.mk H
            clear H
            go_wp2_with (first | (go_loud (refine (joinBoth.calls k1 _ _ l0 a b (rd xs x16) false _ g1 g2 g3 (Kd.C_drewN HR0.out _) HC0.out (cell_drewN G1.out _) (cell_drewN G2.out _) (cell_drewN G3.out _) A6.out).mono ?_; rintro e w' ⟨rfl, ⟨nd, rfl⟩⟩)))
            go_roundg k1
            case measure => have := HK1.out; omega
            case rel => exact ⟨(wrap64 (x16 + 1)), (by first | rfl | (simp; done) | (simp [*]; done)), H', ⟨by have := HK1.out; omega⟩, by repeat (first | exact Drawn0.refl _ | apply Drawn0.step)⟩
        · rw [if_neg c5] at H
          exact absurd H (by simp)
      · rw [if_neg c4] at H
        have c4b0 : decide (x16 < (xs.length : Int)) = false := decide_eq_false c4
        clear c4
        simp only [Option.some.injEq, Prod.mk.injEq] at H
        obtain ⟨rfl, rfl⟩ := H
        go_wp2
        go_ret2
        exact ⟨by first | rfl | (simp; done) | (simp [*]; done), by repeat (first | exact Drawn0.refl _ | apply Drawn0.step)⟩
end Go.Proofs.Ytgmjolngnhdafaa.P

end
section
namespace Go.Proofs.Ytgmjolngnhdafaa.P
open Go Go.RowKit Go.Proofs.YtgmjolngnhdafaaW.PrintWords Go.Proofs.YtgmjolngnhdafaaW.PrintLast Go.Proofs.YtgmjolngnhdafaaW.PrintMore
set_option linter.unusedVariables false
set_option linter.unusedSimpArgs false
set_option maxHeartbeats 8000000 in
set_option maxRecDepth 100000 in
theorem impl_ClassJoin.calls (k : Nat) (A0 : Option Addr) (c0 : Nat) (l0 : List S38) (a b : Int) (r : Int) (w : World) (hr0 : Kd.C k38 w A0 l0.length l0) (hc0 : l0.length ≤ c0) (h : impl_ClassJoin.f k l0 a b = some r) :
    Calls Try.prog 43 #[.slice A0 l0.length c0, .int .i64 a, .int .i64 b] w fun e w' => e = .returned (.int .i64 r) ∧ Below w.heap.size w w' := by
  have HR0 := Aside0.mk hr0
  have HC0 := Aside0.mk hc0
  clear hr0 hc0
  have HB := Aside0.mk (Below.refl w.heap.size w)
  have H : (impl_ClassJoin.f k l0 a b) = some r := h
  clear h
  unfold impl_ClassJoin.f at H
  replace H := Option.bind_eq_some_iff.mp H
  obtain ⟨t1, A40, H⟩ := H
  have A4 := Aside0.mk A40
  clear A40
  by_cases c4 : t1 = true
  · subst c4
    rw [if_pos rfl] at H
    replace H := Option.bind_eq_some_iff.mp H
    obtain ⟨t2, A60, H⟩ := H
    have A6 := Aside0.mk A60
    clear A60
    by_cases c6_ : t2 = true
    · subst c6_
      rw [if_pos rfl] at H
      replace H := Option.bind_eq_some_iff.mp H
      obtain ⟨t3, A80, H⟩ := H
      have A8 := Aside0.mk A80
      clear A80
      by_cases c8_ : t3 = true
      · subst c8_
        rw [if_pos rfl] at H
        by_cases C30 : ((l0.length : Int) : Int).toNat ≤ 35184372088832
        · rw [if_pos C30] at H
          have C3 := Aside0.mk C30
          clear C30
          obtain ⟨y0, hy⟩ : ∃ y_ : List Int, y_ = (List.replicate ((l0.length : Int) : Int).toNat 0) := ⟨_, rfl⟩
          rw [← hy] at H
          have Ny := Aside0.mk hy
          clear hy
          have H' := Aside0.mk H
          clear H
          have hmf : ∀ (fn : Fn) (first cap : Array Value) (W : World), (Instr.makeFunc fn first cap).run Try.prog W = .ok (.func fn first cap) W := fun _ _ _ _ => rfl
          go_enter Try.func43, Try.ntmps43
          go_wp2_with (first | ((with_reducible refine gate_dst (N := 3) rfl ?_); (try (refine gate_guard (by rfl) ?_; dsimp only)); refine box_event ?hg (N := 3) ?hd (cs := #[(.slice A0 l0.length c0)]) (t := 25) ?hr ?_; (case hd => rfl); (case hg => rfl); (case hr => first | (go_simp; done) | (go_simp; rfl)); intro g1 hg wb1 hbox hb; have GE1 := Aside0.mk ((by rw [hg]; exact (below_size (by repeat (first | (with_reducible first | exact HB.out | apply below_alloc | apply pw_below_drewN | apply below_drew1) | exact HB.out))) : w.heap.size ≤ g1)); have n0_ := Aside0.mk (below_step (by repeat (first | (with_reducible first | exact HB.out | apply below_alloc | apply pw_below_drewN | apply below_drew1) | exact HB.out)) hb); clear HB; have HB := n0_; clear n0_; have BK1 := Aside0.mk hbox; clear hb hbox hg; have z1_wb1 : wb1.cell? ⟨g1, 0, none⟩ = some (.slice A0 l0.length c0) := (blk_cell BK1.out 0).trans rfl) | ((with_reducible refine gate_dst (N := 4) rfl ?_); (try (refine gate_guard (by rfl) ?_; dsimp only)); refine box_event ?hg (N := 4) ?hd (cs := #[(.int .i64 a)]) (t := 3) ?hr ?_; (case hd => rfl); (case hg => rfl); (case hr => first | (go_simp; done) | (go_simp; rfl)); intro g2 hg wb2 hbox hb; have GE2 := Aside0.mk ((by rw [hg]; exact (below_size (by repeat (first | (with_reducible first | exact HB.out | apply below_alloc | apply pw_below_drewN | apply below_drew1) | exact HB.out))) : w.heap.size ≤ g2)); have n0_ := Aside0.mk (below_step (by repeat (first | (with_reducible first | exact HB.out | apply below_alloc | apply pw_below_drewN | apply below_drew1) | exact HB.out)) hb); have nk1_ := Aside0.mk (blk_below (by repeat (first | exact BK1.out | refine blk_drewN ?_ _ | refine blk_drew ?_ | refine blk_alloc ?_ _)) hb); clear HB; have HB := n0_; clear n0_; clear BK1; have BK1 := nk1_; clear nk1_; have BK2 := Aside0.mk hbox; clear hb hbox hg; have z1_wb2 : wb2.cell? ⟨g1, 0, none⟩ = some (.slice A0 l0.length c0) := (blk_cell BK1.out 0).trans rfl; have z2_wb2 : wb2.cell? ⟨g2, 0, none⟩ = some (.int .i64 a) := (blk_cell BK2.out 0).trans rfl) | ((with_reducible refine gate_dst (N := 5) rfl ?_); (try (refine gate_guard (by rfl) ?_; dsimp only)); refine box_event ?hg (N := 5) ?hd (cs := #[(.int .i64 b)]) (t := 3) ?hr ?_; (case hd => rfl); (case hg => rfl); (case hr => first | (go_simp; done) | (go_simp; rfl)); intro g3 hg wb3 hbox hb; have GE3 := Aside0.mk ((by rw [hg]; exact (below_size (by repeat (first | (with_reducible first | exact HB.out | apply below_alloc | apply pw_below_drewN | apply below_drew1) | exact HB.out))) : w.heap.size ≤ g3)); have n0_ := Aside0.mk (below_step (by repeat (first | (with_reducible first | exact HB.out | apply below_alloc | apply pw_below_drewN | apply below_drew1) | exact HB.out)) hb); have nk1_ := Aside0.mk (blk_below (by repeat (first | exact BK1.out | refine blk_drewN ?_ _ | refine blk_drew ?_ | refine blk_alloc ?_ _)) hb); have nk2_ := Aside0.mk (blk_below (by repeat (first | exact BK2.out | refine blk_drewN ?_ _ | refine blk_drew ?_ | refine blk_alloc ?_ _)) hb); clear HB; have HB := n0_; clear n0_; clear BK1; have BK1 := nk1_; clear nk1_; clear BK2; have BK2 := nk2_; clear nk2_; have BK3 := Aside0.mk hbox; clear hb hbox hg; have z1_wb3 : wb3.cell? ⟨g1, 0, none⟩ = some (.slice A0 l0.length c0) := (blk_cell BK1.out 0).trans rfl; have z2_wb3 : wb3.cell? ⟨g2, 0, none⟩ = some (.int .i64 a) := (blk_cell BK2.out 0).trans rfl; have z3_wb3 : wb3.cell? ⟨g3, 0, none⟩ = some (.int .i64 b) := (blk_cell BK3.out 0).trans rfl) | ((with_reducible refine gate_callee (f := 23) rfl ?_); refine goesL_ (some 14) rfl rfl Try.func23 (by kernel_rfl) rfl #[.slice A0 l0.length c0] rfl (by (try simp only [List.map_toArray, List.map_cons, List.map_nil]); first | done | rfl | (simp only [List.length_drop, List.length_take]; rfl)) ?_; (with_reducible refine (impl_ClassesOk.calls k _ _ l0 true _ ?side1 ?side2 A4.out).mono ?_); (case side1 => repeat (first | exact (Kd.C_below HR0.out (by repeat (first | (with_reducible first | exact HB.out | apply below_alloc | apply pw_below_drewN | apply below_drew1) | exact HB.out))) | (with_reducible refine Kd.C_alloc ?_ _) | (with_reducible refine Kd.C_drewN ?_ _) | (with_reducible refine Kd.C_drew ?_))); (case side2 => exact HC0.out); rintro e wc ⟨rfl, hb⟩; refine ⟨_, rfl, ?_⟩; have n0_ := Aside0.mk (below_step (by repeat (first | (with_reducible first | exact HB.out | apply below_alloc | apply pw_below_drewN | apply below_drew1) | exact HB.out)) hb); have nk1_ := Aside0.mk (blk_below (by repeat (first | exact BK1.out | refine blk_drewN ?_ _ | refine blk_drew ?_ | refine blk_alloc ?_ _)) hb); have nk2_ := Aside0.mk (blk_below (by repeat (first | exact BK2.out | refine blk_drewN ?_ _ | refine blk_drew ?_ | refine blk_alloc ?_ _)) hb); have nk3_ := Aside0.mk (blk_below (by repeat (first | exact BK3.out | refine blk_drewN ?_ _ | refine blk_drew ?_ | refine blk_alloc ?_ _)) hb); clear HB; have HB := n0_; clear n0_; clear BK1; have BK1 := nk1_; clear nk1_; clear BK2; have BK2 := nk2_; clear nk2_; clear BK3; have BK3 := nk3_; clear nk3_; clear hb; have z1_wc : wc.cell? ⟨g1, 0, none⟩ = some (.slice A0 l0.length c0) := (blk_cell BK1.out 0).trans rfl; have z2_wc : wc.cell? ⟨g2, 0, none⟩ = some (.int .i64 a) := (blk_cell BK2.out 0).trans rfl; have z3_wc : wc.cell? ⟨g3, 0, none⟩ = some (.int .i64 b) := (blk_cell BK3.out 0).trans rfl) | (go_at_call 66; (with_reducible refine (impl_isClass.calls _ _ l0 a true _ ?side1 ?side2 A6.out).mono ?_); (case side1 => repeat (first | exact (Kd.C_below HR0.out (by repeat (first | (with_reducible first | exact HB.out | apply below_alloc | apply pw_below_drewN | apply below_drew1) | exact HB.out))) | (with_reducible refine Kd.C_alloc ?_ _) | (with_reducible refine Kd.C_drewN ?_ _) | (with_reducible refine Kd.C_drew ?_))); (case side2 => exact HC0.out); rintro e w' ⟨rfl, ⟨nd, rfl⟩⟩) | (go_at_call 66; (with_reducible refine (impl_isClass.calls _ _ l0 b true _ ?side1 ?side2 A8.out).mono ?_); (case side1 => repeat (first | exact (Kd.C_below HR0.out (by repeat (first | (with_reducible first | exact HB.out | apply below_alloc | apply pw_below_drewN | apply below_drew1) | exact HB.out))) | (with_reducible refine Kd.C_alloc ?_ _) | (with_reducible refine Kd.C_drewN ?_ _) | (with_reducible refine Kd.C_drew ?_))); (case side2 => exact HC0.out); rintro e w' ⟨rfl, ⟨nd, rfl⟩⟩) | ((with_reducible refine gate_dst (N := 30) rfl ?_); refine Kd.R_make (Kd.int .i64) _ 3 rfl (N := 30) rfl 36 _ _ rfl (l0.length : Int) rfl rfl Try.underlying36 (.int .i64 0) 8 info3 rfl (by decide) (by omega) 0 (ok := fun _ => True) (okp := fun _ => True) rfl (fun _ hk => hk) trivial (Int.natCast_nonneg _) (Nat.le_trans (Nat.mul_le_mul_right _ C3.out) (by omega)) (Below.refl _ _) (Nat.le_refl _) ?_; intro v7 wm ho5 hb hg_ hnew_; clear hg_ hnew_; have HBS := Aside0.mk (below_size (by repeat (first | (with_reducible first | exact HB.out | apply below_alloc | apply pw_below_drewN | apply below_drew1) | exact HB.out))); have l1_ := Aside0.mk (blk_lt (by repeat (first | exact BK1.out | refine blk_drewN ?_ _ | refine blk_drew ?_ | refine blk_alloc ?_ _))); have l2_ := Aside0.mk (blk_lt (by repeat (first | exact BK2.out | refine blk_drewN ?_ _ | refine blk_drew ?_ | refine blk_alloc ?_ _))); have l3_ := Aside0.mk (blk_lt (by repeat (first | exact BK3.out | refine blk_drewN ?_ _ | refine blk_drew ?_ | refine blk_alloc ?_ _))); rw [← Ny.out] at ho5; have HO := Aside0.mk ho5; have n0_ := Aside0.mk (below_step (by repeat (first | (with_reducible first | exact HB.out | apply below_alloc | apply pw_below_drewN | apply below_drew1) | exact HB.out)) hb); have nk1_ := Aside0.mk (blk_below (by repeat (first | exact BK1.out | refine blk_drewN ?_ _ | refine blk_drew ?_ | refine blk_alloc ?_ _)) hb); have nk2_ := Aside0.mk (blk_below (by repeat (first | exact BK2.out | refine blk_drewN ?_ _ | refine blk_drew ?_ | refine blk_alloc ?_ _)) hb); have nk3_ := Aside0.mk (blk_below (by repeat (first | exact BK3.out | refine blk_drewN ?_ _ | refine blk_drew ?_ | refine blk_alloc ?_ _)) hb); clear HB; have HB := n0_; clear n0_; clear BK1; have BK1 := nk1_; clear nk1_; clear BK2; have BK2 := nk2_; clear nk2_; clear BK3; have BK3 := nk3_; clear nk3_; clear hb ho5; have z1_wm : wm.cell? ⟨g1, 0, none⟩ = some (.slice A0 l0.length c0) := (blk_cell BK1.out 0).trans rfl; have z2_wm : wm.cell? ⟨g2, 0, none⟩ = some (.int .i64 a) := (blk_cell BK2.out 0).trans rfl; have z3_wm : wm.cell? ⟨g3, 0, none⟩ = some (.int .i64 b) := (blk_cell BK3.out 0).trans rfl))
          have HOx : ∃ b0 : Nat, w.heap.size ≤ b0 ∧ g1 < b0 ∧ g2 < b0 ∧ g3 < b0 ∧ Kd.R (Kd.int .i64) 3 wm b0 (fun _ => True) v7 y0 := ⟨_, HBS.out, l1_.out, l2_.out, l3_.out, HO.out⟩
          obtain ⟨b0, hb0, hl1, hl2, hl3, ho⟩ := HOx
          clear HO HBS l1_ l2_ l3_
          have HO := Aside0.mk ho
          have HL0 := Aside0.mk hb0
          have HL1 := Aside0.mk hl1
          have HL2 := Aside0.mk hl2
          have HL3 := Aside0.mk hl3
          clear ho hb0 hl1 hl2 hl3
          go_loopg [33] k (fun kq v33 w' => ∃ (xs : List Int) (x33 : Int), v33 = .int .i64 x33 ∧ Aside0 (impl_ClassJoin.l0 kq l0 a b xs x33 = some r) ∧ Aside0 (kq ≤ k) ∧ Aside0 (Kd.R (Kd.int .i64) 3 w' b0 (fun _ => True) v7 xs) ∧ Aside0 (w'.heap[g1]? = some (.cells #[.slice A0 l0.length c0] 25 (0, 0))) ∧ Aside0 (w'.heap[g2]? = some (.cells #[.int .i64 a] 3 (0, 0))) ∧ Aside0 (w'.heap[g3]? = some (.cells #[.int .i64 b] 3 (0, 0))) ∧ Aside0 (Below w.heap.size w w'))
          case atStart => exact ⟨y0, (0), (by first | rfl | (simp; done) | (simp [*]; done)), H', ⟨Nat.le_refl _⟩, ⟨by (with_reducible repeat (first | apply Kd.R_alloc | apply Kd.R_drewN | apply Kd.R_drew)); exact HO.out⟩, ⟨by repeat (first | exact BK1.out | refine blk_drewN ?_ _ | refine blk_drew ?_ | refine blk_alloc ?_ _)⟩, ⟨by repeat (first | exact BK2.out | refine blk_drewN ?_ _ | refine blk_drew ?_ | refine blk_alloc ?_ _)⟩, ⟨by repeat (first | exact BK3.out | refine blk_drewN ?_ _ | refine blk_drew ?_ | refine blk_alloc ?_ _)⟩, ⟨by repeat (first | (with_reducible first | exact HB.out | apply below_alloc | apply pw_below_drewN | apply below_drew1) | exact HB.out)⟩⟩
          case round =>
            clear H'
            try clear p2
            obtain ⟨xs, x33, rfl, HA, HK1, HO_3, BKa, BKb, BKc, HBn⟩ := hrel
            clear BK1 BK2 BK3 HB
            have BK1 := BKa
            have BK2 := BKb
            have BK3 := BKc
            have HB := HBn
            clear BKa BKb BKc HBn
            cases gk with
            | zero => exact absurd HA.out (by simp [impl_ClassJoin.l0])
            | succ k1 =>
              have H := HA.out
              clear HA
              simp only [impl_ClassJoin.l0] at H
              have y1 : wr.cell? ⟨g1, 0, none⟩ = some (.slice A0 l0.length c0) := (blk_cell BK1.out 0).trans rfl
              have y2 : wr.cell? ⟨g2, 0, none⟩ = some (.int .i64 a) := (blk_cell BK2.out 0).trans rfl
              have y3 : wr.cell? ⟨g3, 0, none⟩ = some (.int .i64 b) := (blk_cell BK3.out 0).trans rfl
              by_cases c6 : x33 < (l0.length : Int)
              · rw [if_pos c6] at H
                have c6b0 : decide (x33 < (l0.length : Int)) = true := decide_eq_true c6
                clear c6
                by_cases c7 : 0 ≤ x33
                · rw [if_pos c7] at H
                  have c7b0 : decide (0 ≤ x33) = true := decide_eq_true c7
                  clear c7
                  by_cases c8 : x33 < (xs.length : Int)
                  · rw [if_pos c8] at H
                    have c8b0 : decide (x33 < (xs.length : Int)) = true := decide_eq_true c8
                    clear c8
                    obtain ⟨y118, hy118⟩ : ∃ y_ : List Int, y_ = (xs.set (x33 : Int).toNat x33) := ⟨_, rfl⟩
                    rw [← hy118] at H
                    have Ny118 := Aside0.mk hy118
                    clear hy118
                    have H' := Aside0.mk H
                    clear H
                    have p9 : 0 ≤ (x33 : Int) := of_decide_eq_true (by first | (with_reducible assumption) | assumption)
                    have q9 : (x33 : Int) < ((xs.length : Int) : Int) := of_decide_eq_true (by first | (with_reducible assumption) | assumption)
                    obtain ⟨go9, co9, eo9, gb9, gl9, cl9, HG9⟩ := Kd.R_form HO_3.out (by omega)
                    (first | cases eo9 | (injection eo9 with ea_ en_ ec_; (first | subst ea_ | (injection ea_ with ea_; subst ea_)); subst ec_; clear en_))
                    have GB9 := Aside0.mk gb9
                    have GG9 := Aside0.mk HG9
                    clear gb9 gl9 HG9
                    obtain ⟨hx9_0, hf9_0⟩ := Kd.R_celln 0 HO_3.out (x33 : Int) p9 q9
                    replace p9 := eq_true p9
                    replace q9 := eq_true q9
                    have HP10 := Kd.R_putg HO_3.out (x33 : Int) x33
                    go_wp2_with (first | ((with_reducible refine gate_store (t := 3) (p := 39) rfl ?_); refine store_event (t := 3) (p := 39) (v := ?vo_w11) (w1 := (wr.setCell ⟨go9, (x33 : Int).toNat, none⟩ (.int .i64 x33))) ?hg ?ho ?hn ?hr ?_; (case ho => rfl); (case hg => rfl); (case hn => rfl); (case hr => first | (go_simp; done) | (go_simp; rfl)); intro w11 hw; have hg : wr.grownBy w11 (some go9) := (by rw [hw]; exact HP10.2); have hp_ : Kd.R (Kd.int .i64) 3 w11 b0 (fun _ => True) (.slice (some ⟨go9, 0, none⟩) xs.length co9) y118 := (by rw [hw, Ny118.out]; exact HP10.1); clear HP10; have n0_ := Aside0.mk (hp_); have n1_ := Aside0.mk ((by rw [hw]; exact below_set (HB.out) (Nat.le_trans HL0.out GB9.out) : Below w.heap.size w w11)); have m1_ := Aside0.mk (blk_grown BK1.out hg (fun e_ => by have h1_ := GB9.out; have h2_ := HL1.out; injection e_ with e_; omega)); have m2_ := Aside0.mk (blk_grown BK2.out hg (fun e_ => by have h1_ := GB9.out; have h2_ := HL2.out; injection e_ with e_; omega)); have m3_ := Aside0.mk (blk_grown BK3.out hg (fun e_ => by have h1_ := GB9.out; have h2_ := HL3.out; injection e_ with e_; omega)); clear HO_3 HB BK1 BK2 BK3; have HO_3 := n0_; have HB := n1_; have BK1 := m1_; have BK2 := m2_; have BK3 := m3_; clear n0_ n1_ m1_ m2_ m3_; clear hg hw hp_))
                    go_roundg k1
                    case measure => have := HK1.out; omega
                    case rel => exact ⟨y118, (wrap64 (x33 + 1)), (by first | rfl | (simp; done) | (simp [*]; done)), H', ⟨by have := HK1.out; omega⟩, ⟨by (with_reducible repeat (first | apply Kd.R_alloc | apply Kd.R_drewN | apply Kd.R_drew)); exact HO_3.out⟩, ⟨by repeat (first | exact BK1.out | refine blk_drewN ?_ _ | refine blk_drew ?_ | refine blk_alloc ?_ _)⟩, ⟨by repeat (first | exact BK2.out | refine blk_drewN ?_ _ | refine blk_drew ?_ | refine blk_alloc ?_ _)⟩, ⟨by repeat (first | exact BK3.out | refine blk_drewN ?_ _ | refine blk_drew ?_ | refine blk_alloc ?_ _)⟩, ⟨by repeat (first | (with_reducible first | exact HB.out | apply below_alloc | apply pw_below_drewN | apply below_drew1) | exact HB.out)⟩⟩
                  · rw [if_neg c8] at H
                    exact absurd H (by simp)
                · rw [if_neg c7] at H
                  exact absurd H (by simp)
              · rw [if_neg c6] at H
                have c6b0 : decide (x33 < (l0.length : Int)) = false := decide_eq_false c6
                clear c6
                replace H := Option.bind_eq_some_iff.mp H
                obtain ⟨⟨p1, p2⟩, A90, H⟩ := H
                have A9 := Aside0.mk A90
                clear A90
                obtain ⟨Ao9, co9, eo9⟩ := Kd.R_slice HO_3.out
                subst eo9
                have HRO := Aside0.mk (Kd.R_reads' HO_3.out)
                cases p2 with
                | true =>
                  rw [if_pos rfl] at H
                  obtain rfl := Option.some.inj H
                  clear H
                  go_wp2_with (first | (go_at_call 77; go_loud (refine (impl_nearest.calls k1 A0 c0 l0 a b Ao9 co9 xs p1 _ wr g1 g2 g3 (Kd.C_below HR0.out HB.out) HC0.out HRO.out.2.2 HRO.out.2.1 y1 y2 y3 A9.out).mono ?_; rintro e w' ⟨rfl, ⟨nd, rfl⟩⟩)))
                  go_ret
                  exact ⟨rfl, by repeat (first | (with_reducible first | exact HB.out | apply below_alloc | apply pw_below_drewN | apply below_drew1) | exact HB.out)⟩
                | false =>
                  rw [if_neg (by simp)] at H
                  obtain rfl := Option.some.inj H
                  clear H
                  go_wp2_with (first | (go_at_call 77; go_loud (refine (impl_nearest.calls k1 A0 c0 l0 a b Ao9 co9 xs p1 _ wr g1 g2 g3 (Kd.C_below HR0.out HB.out) HC0.out HRO.out.2.2 HRO.out.2.1 y1 y2 y3 A9.out).mono ?_; rintro e w' ⟨rfl, ⟨nd, rfl⟩⟩)))
                  go_ret
                  exact ⟨rfl, by repeat (first | (with_reducible first | exact HB.out | apply below_alloc | apply pw_below_drewN | apply below_drew1) | exact HB.out)⟩
        · rw [if_neg C30] at H
          exact absurd H (by simp)
      · replace c8_ := Bool.eq_false_iff.mpr c8_
        subst c8_
        have H1 : (some (-1) : Option Int) = some r := by rw [if_neg (by decide)] at H; exact H
        obtain rfl := Option.some.inj H1
        clear H H1
        go_enter Try.func43, Try.ntmps43
        go_wp2_with (first | ((with_reducible refine gate_dst (N := 3) rfl ?_); (try (refine gate_guard (by rfl) ?_; dsimp only)); refine box_event ?hg (N := 3) ?hd (cs := #[(.slice A0 l0.length c0)]) (t := 25) ?hr ?_; (case hd => rfl); (case hg => rfl); (case hr => first | (go_simp; done) | (go_simp; rfl)); intro g1 hg wb1 hbox hb; have GE1 := Aside0.mk ((by rw [hg]; exact (below_size (by repeat (first | (with_reducible first | exact HB.out | apply below_alloc | apply pw_below_drewN | apply below_drew1) | exact HB.out))) : w.heap.size ≤ g1)); have n0_ := Aside0.mk (below_step (by repeat (first | (with_reducible first | exact HB.out | apply below_alloc | apply pw_below_drewN | apply below_drew1) | exact HB.out)) hb); clear HB; have HB := n0_; clear n0_; have BK1 := Aside0.mk hbox; clear hb hbox hg; have z1_wb1 : wb1.cell? ⟨g1, 0, none⟩ = some (.slice A0 l0.length c0) := (blk_cell BK1.out 0).trans rfl) | ((with_reducible refine gate_dst (N := 4) rfl ?_); (try (refine gate_guard (by rfl) ?_; dsimp only)); refine box_event ?hg (N := 4) ?hd (cs := #[(.int .i64 a)]) (t := 3) ?hr ?_; (case hd => rfl); (case hg => rfl); (case hr => first | (go_simp; done) | (go_simp; rfl)); intro g2 hg wb2 hbox hb; have GE2 := Aside0.mk ((by rw [hg]; exact (below_size (by repeat (first | (with_reducible first | exact HB.out | apply below_alloc | apply pw_below_drewN | apply below_drew1) | exact HB.out))) : w.heap.size ≤ g2)); have n0_ := Aside0.mk (below_step (by repeat (first | (with_reducible first | exact HB.out | apply below_alloc | apply pw_below_drewN | apply below_drew1) | exact HB.out)) hb); have nk1_ := Aside0.mk (blk_below (by repeat (first | exact BK1.out | refine blk_drewN ?_ _ | refine blk_drew ?_ | refine blk_alloc ?_ _)) hb); clear HB; have HB := n0_; clear n0_; clear BK1; have BK1 := nk1_; clear nk1_; have BK2 := Aside0.mk hbox; clear hb hbox hg; have z1_wb2 : wb2.cell? ⟨g1, 0, none⟩ = some (.slice A0 l0.length c0) := (blk_cell BK1.out 0).trans rfl; have z2_wb2 : wb2.cell? ⟨g2, 0, none⟩ = some (.int .i64 a) := (blk_cell BK2.out 0).trans rfl) | ((with_reducible refine gate_dst (N := 5) rfl ?_); (try (refine gate_guard (by rfl) ?_; dsimp only)); refine box_event ?hg (N := 5) ?hd (cs := #[(.int .i64 b)]) (t := 3) ?hr ?_; (case hd => rfl); (case hg => rfl); (case hr => first | (go_simp; done) | (go_simp; rfl)); intro g3 hg wb3 hbox hb; have GE3 := Aside0.mk ((by rw [hg]; exact (below_size (by repeat (first | (with_reducible first | exact HB.out | apply below_alloc | apply pw_below_drewN | apply below_drew1) | exact HB.out))) : w.heap.size ≤ g3)); have n0_ := Aside0.mk (below_step (by repeat (first | (with_reducible first | exact HB.out | apply below_alloc | apply pw_below_drewN | apply below_drew1) | exact HB.out)) hb); have nk1_ := Aside0.mk (blk_below (by repeat (first | exact BK1.out | refine blk_drewN ?_ _ | refine blk_drew ?_ | refine blk_alloc ?_ _)) hb); have nk2_ := Aside0.mk (blk_below (by repeat (first | exact BK2.out | refine blk_drewN ?_ _ | refine blk_drew ?_ | refine blk_alloc ?_ _)) hb); clear HB; have HB := n0_; clear n0_; clear BK1; have BK1 := nk1_; clear nk1_; clear BK2; have BK2 := nk2_; clear nk2_; have BK3 := Aside0.mk hbox; clear hb hbox hg; have z1_wb3 : wb3.cell? ⟨g1, 0, none⟩ = some (.slice A0 l0.length c0) := (blk_cell BK1.out 0).trans rfl; have z2_wb3 : wb3.cell? ⟨g2, 0, none⟩ = some (.int .i64 a) := (blk_cell BK2.out 0).trans rfl; have z3_wb3 : wb3.cell? ⟨g3, 0, none⟩ = some (.int .i64 b) := (blk_cell BK3.out 0).trans rfl) | ((with_reducible refine gate_callee (f := 23) rfl ?_); refine goesL_ (some 14) rfl rfl Try.func23 (by kernel_rfl) rfl #[.slice A0 l0.length c0] rfl (by (try simp only [List.map_toArray, List.map_cons, List.map_nil]); first | done | rfl | (simp only [List.length_drop, List.length_take]; rfl)) ?_; (with_reducible refine (impl_ClassesOk.calls k _ _ l0 true _ ?side1 ?side2 A4.out).mono ?_); (case side1 => repeat (first | exact (Kd.C_below HR0.out (by repeat (first | (with_reducible first | exact HB.out | apply below_alloc | apply pw_below_drewN | apply below_drew1) | exact HB.out))) | (with_reducible refine Kd.C_alloc ?_ _) | (with_reducible refine Kd.C_drewN ?_ _) | (with_reducible refine Kd.C_drew ?_))); (case side2 => exact HC0.out); rintro e wc ⟨rfl, hb⟩; refine ⟨_, rfl, ?_⟩; have n0_ := Aside0.mk (below_step (by repeat (first | (with_reducible first | exact HB.out | apply below_alloc | apply pw_below_drewN | apply below_drew1) | exact HB.out)) hb); have nk1_ := Aside0.mk (blk_below (by repeat (first | exact BK1.out | refine blk_drewN ?_ _ | refine blk_drew ?_ | refine blk_alloc ?_ _)) hb); have nk2_ := Aside0.mk (blk_below (by repeat (first | exact BK2.out | refine blk_drewN ?_ _ | refine blk_drew ?_ | refine blk_alloc ?_ _)) hb); have nk3_ := Aside0.mk (blk_below (by repeat (first | exact BK3.out | refine blk_drewN ?_ _ | refine blk_drew ?_ | refine blk_alloc ?_ _)) hb); clear HB; have HB := n0_; clear n0_; clear BK1; have BK1 := nk1_; clear nk1_; clear BK2; have BK2 := nk2_; clear nk2_; clear BK3; have BK3 := nk3_; clear nk3_; clear hb; have z1_wc : wc.cell? ⟨g1, 0, none⟩ = some (.slice A0 l0.length c0) := (blk_cell BK1.out 0).trans rfl; have z2_wc : wc.cell? ⟨g2, 0, none⟩ = some (.int .i64 a) := (blk_cell BK2.out 0).trans rfl; have z3_wc : wc.cell? ⟨g3, 0, none⟩ = some (.int .i64 b) := (blk_cell BK3.out 0).trans rfl) | (go_at_call 66; (with_reducible refine (impl_isClass.calls _ _ l0 a true _ ?side1 ?side2 A6.out).mono ?_); (case side1 => repeat (first | exact (Kd.C_below HR0.out (by repeat (first | (with_reducible first | exact HB.out | apply below_alloc | apply pw_below_drewN | apply below_drew1) | exact HB.out))) | (with_reducible refine Kd.C_alloc ?_ _) | (with_reducible refine Kd.C_drewN ?_ _) | (with_reducible refine Kd.C_drew ?_))); (case side2 => exact HC0.out); rintro e w' ⟨rfl, ⟨nd, rfl⟩⟩) | (go_at_call 66; (with_reducible refine (impl_isClass.calls _ _ l0 b false _ ?side1 ?side2 A8.out).mono ?_); (case side1 => repeat (first | exact (Kd.C_below HR0.out (by repeat (first | (with_reducible first | exact HB.out | apply below_alloc | apply pw_below_drewN | apply below_drew1) | exact HB.out))) | (with_reducible refine Kd.C_alloc ?_ _) | (with_reducible refine Kd.C_drewN ?_ _) | (with_reducible refine Kd.C_drew ?_))); (case side2 => exact HC0.out); rintro e w' ⟨rfl, ⟨nd, rfl⟩⟩))
        go_ret
        exact ⟨rfl, (by repeat (first | (with_reducible first | exact HB.out | apply below_alloc | apply pw_below_drewN | apply below_drew1) | exact HB.out))⟩
    · replace c6_ := Bool.eq_false_iff.mpr c6_
      subst c6_
      have H1 : (some (-1) : Option Int) = some r := by rw [if_neg (by decide)] at H; exact H
      obtain rfl := Option.some.inj H1
      clear H H1
      go_enter Try.func43, Try.ntmps43
      go_wp2_with (first | ((with_reducible refine gate_dst (N := 3) rfl ?_); (try (refine gate_guard (by rfl) ?_; dsimp only)); refine box_event ?hg (N := 3) ?hd (cs := #[(.slice A0 l0.length c0)]) (t := 25) ?hr ?_; (case hd => rfl); (case hg => rfl); (case hr => first | (go_simp; done) | (go_simp; rfl)); intro g1 hg wb1 hbox hb; have GE1 := Aside0.mk ((by rw [hg]; exact (below_size (by repeat (first | (with_reducible first | exact HB.out | apply below_alloc | apply pw_below_drewN | apply below_drew1) | exact HB.out))) : w.heap.size ≤ g1)); have n0_ := Aside0.mk (below_step (by repeat (first | (with_reducible first | exact HB.out | apply below_alloc | apply pw_below_drewN | apply below_drew1) | exact HB.out)) hb); clear HB; have HB := n0_; clear n0_; have BK1 := Aside0.mk hbox; clear hb hbox hg; have z1_wb1 : wb1.cell? ⟨g1, 0, none⟩ = some (.slice A0 l0.length c0) := (blk_cell BK1.out 0).trans rfl) | ((with_reducible refine gate_dst (N := 4) rfl ?_); (try (refine gate_guard (by rfl) ?_; dsimp only)); refine box_event ?hg (N := 4) ?hd (cs := #[(.int .i64 a)]) (t := 3) ?hr ?_; (case hd => rfl); (case hg => rfl); (case hr => first | (go_simp; done) | (go_simp; rfl)); intro g2 hg wb2 hbox hb; have GE2 := Aside0.mk ((by rw [hg]; exact (below_size (by repeat (first | (with_reducible first | exact HB.out | apply below_alloc | apply pw_below_drewN | apply below_drew1) | exact HB.out))) : w.heap.size ≤ g2)); have n0_ := Aside0.mk (below_step (by repeat (first | (with_reducible first | exact HB.out | apply below_alloc | apply pw_below_drewN | apply below_drew1) | exact HB.out)) hb); have nk1_ := Aside0.mk (blk_below (by repeat (first | exact BK1.out | refine blk_drewN ?_ _ | refine blk_drew ?_ | refine blk_alloc ?_ _)) hb); clear HB; have HB := n0_; clear n0_; clear BK1; have BK1 := nk1_; clear nk1_; have BK2 := Aside0.mk hbox; clear hb hbox hg; have z1_wb2 : wb2.cell? ⟨g1, 0, none⟩ = some (.slice A0 l0.length c0) := (blk_cell BK1.out 0).trans rfl; have z2_wb2 : wb2.cell? ⟨g2, 0, none⟩ = some (.int .i64 a) := (blk_cell BK2.out 0).trans rfl) | ((with_reducible refine gate_dst (N := 5) rfl ?_); (try (refine gate_guard (by rfl) ?_; dsimp only)); refine box_event ?hg (N := 5) ?hd (cs := #[(.int .i64 b)]) (t := 3) ?hr ?_; (case hd => rfl); (case hg => rfl); (case hr => first | (go_simp; done) | (go_simp; rfl)); intro g3 hg wb3 hbox hb; have GE3 := Aside0.mk ((by rw [hg]; exact (below_size (by repeat (first | (with_reducible first | exact HB.out | apply below_alloc | apply pw_below_drewN | apply below_drew1) | exact HB.out))) : w.heap.size ≤ g3)); have n0_ := Aside0.mk (below_step (by repeat (first | (with_reducible first | exact HB.out | apply below_alloc | apply pw_below_drewN | apply below_drew1) | exact HB.out)) hb); have nk1_ := Aside0.mk (blk_below (by repeat (first | exact BK1.out | refine blk_drewN ?_ _ | refine blk_drew ?_ | refine blk_alloc ?_ _)) hb); have nk2_ := Aside0.mk (blk_below (by repeat (first | exact BK2.out | refine blk_drewN ?_ _ | refine blk_drew ?_ | refine blk_alloc ?_ _)) hb); clear HB; have HB := n0_; clear n0_; clear BK1; have BK1 := nk1_; clear nk1_; clear BK2; have BK2 := nk2_; clear nk2_; have BK3 := Aside0.mk hbox; clear hb hbox hg; have z1_wb3 : wb3.cell? ⟨g1, 0, none⟩ = some (.slice A0 l0.length c0) := (blk_cell BK1.out 0).trans rfl; have z2_wb3 : wb3.cell? ⟨g2, 0, none⟩ = some (.int .i64 a) := (blk_cell BK2.out 0).trans rfl; have z3_wb3 : wb3.cell? ⟨g3, 0, none⟩ = some (.int .i64 b) := (blk_cell BK3.out 0).trans rfl) | ((with_reducible refine gate_callee (f := 23) rfl ?_); refine goesL_ (some 14) rfl rfl Try.func23 (by kernel_rfl) rfl #[.slice A0 l0.length c0] rfl (by (try simp only [List.map_toArray, List.map_cons, List.map_nil]); first | done | rfl | (simp only [List.length_drop, List.length_take]; rfl)) ?_; (with_reducible refine (impl_ClassesOk.calls k _ _ l0 true _ ?side1 ?side2 A4.out).mono ?_); (case side1 => repeat (first | exact (Kd.C_below HR0.out (by repeat (first | (with_reducible first | exact HB.out | apply below_alloc | apply pw_below_drewN | apply below_drew1) | exact HB.out))) | (with_reducible refine Kd.C_alloc ?_ _) | (with_reducible refine Kd.C_drewN ?_ _) | (with_reducible refine Kd.C_drew ?_))); (case side2 => exact HC0.out); rintro e wc ⟨rfl, hb⟩; refine ⟨_, rfl, ?_⟩; have n0_ := Aside0.mk (below_step (by repeat (first | (with_reducible first | exact HB.out | apply below_alloc | apply pw_below_drewN | apply below_drew1) | exact HB.out)) hb); have nk1_ := Aside0.mk (blk_below (by repeat (first | exact BK1.out | refine blk_drewN ?_ _ | refine blk_drew ?_ | refine blk_alloc ?_ _)) hb); have nk2_ := Aside0.mk (blk_below (by repeat (first | exact BK2.out | refine blk_drewN ?_ _ | refine blk_drew ?_ | refine blk_alloc ?_ _)) hb); have nk3_ := Aside0.mk (blk_below (by repeat (first | exact BK3.out | refine blk_drewN ?_ _ | refine blk_drew ?_ | refine blk_alloc ?_ _)) hb); clear HB; have HB := n0_; clear n0_; clear BK1; have BK1 := nk1_; clear nk1_; clear BK2; have BK2 := nk2_; clear nk2_; clear BK3; have BK3 := nk3_; clear nk3_; clear hb; have z1_wc : wc.cell? ⟨g1, 0, none⟩ = some (.slice A0 l0.length c0) := (blk_cell BK1.out 0).trans rfl; have z2_wc : wc.cell? ⟨g2, 0, none⟩ = some (.int .i64 a) := (blk_cell BK2.out 0).trans rfl; have z3_wc : wc.cell? ⟨g3, 0, none⟩ = some (.int .i64 b) := (blk_cell BK3.out 0).trans rfl) | (go_at_call 66; (with_reducible refine (impl_isClass.calls _ _ l0 a false _ ?side1 ?side2 A6.out).mono ?_); (case side1 => repeat (first | exact (Kd.C_below HR0.out (by repeat (first | (with_reducible first | exact HB.out | apply below_alloc | apply pw_below_drewN | apply below_drew1) | exact HB.out))) | (with_reducible refine Kd.C_alloc ?_ _) | (with_reducible refine Kd.C_drewN ?_ _) | (with_reducible refine Kd.C_drew ?_))); (case side2 => exact HC0.out); rintro e w' ⟨rfl, ⟨nd, rfl⟩⟩))
      go_ret
      exact ⟨rfl, (by repeat (first | (with_reducible first | exact HB.out | apply below_alloc | apply pw_below_drewN | apply below_drew1) | exact HB.out))⟩
  · replace c4 := Bool.eq_false_iff.mpr c4
    subst c4
    have H1 : (some (-1) : Option Int) = some r := by rw [if_neg (by decide)] at H; exact H
    obtain rfl := Option.some.inj H1
    clear H H1
    go_enter Try.func43, Try.ntmps43
    go_wp2_with (first | ((with_reducible refine gate_dst (N := 3) rfl ?_); (try (refine gate_guard (by rfl) ?_; dsimp only)); refine box_event ?hg (N := 3) ?hd (cs := #[(.slice A0 l0.length c0)]) (t := 25) ?hr ?_; (case hd => rfl); (case hg => rfl); (case hr => first | (go_simp; done) | (go_simp; rfl)); intro g1 hg wb1 hbox hb; have GE1 := Aside0.mk ((by rw [hg]; exact (below_size (by repeat (first | (with_reducible first | exact HB.out | apply below_alloc | apply pw_below_drewN | apply below_drew1) | exact HB.out))) : w.heap.size ≤ g1)); have n0_ := Aside0.mk (below_step (by repeat (first | (with_reducible first | exact HB.out | apply below_alloc | apply pw_below_drewN | apply below_drew1) | exact HB.out)) hb); clear HB; have HB := n0_; clear n0_; have BK1 := Aside0.mk hbox; clear hb hbox hg; have z1_wb1 : wb1.cell? ⟨g1, 0, none⟩ = some (.slice A0 l0.length c0) := (blk_cell BK1.out 0).trans rfl) | ((with_reducible refine gate_dst (N := 4) rfl ?_); (try (refine gate_guard (by rfl) ?_; dsimp only)); refine box_event ?hg (N := 4) ?hd (cs := #[(.int .i64 a)]) (t := 3) ?hr ?_; (case hd => rfl); (case hg => rfl); (case hr => first | (go_simp; done) | (go_simp; rfl)); intro g2 hg wb2 hbox hb; have GE2 := Aside0.mk ((by rw [hg]; exact (below_size (by repeat (first | (with_reducible first | exact HB.out | apply below_alloc | apply pw_below_drewN | apply below_drew1) | exact HB.out))) : w.heap.size ≤ g2)); have n0_ := Aside0.mk (below_step (by repeat (first | (with_reducible first | exact HB.out | apply below_alloc | apply pw_below_drewN | apply below_drew1) | exact HB.out)) hb); have nk1_ := Aside0.mk (blk_below (by repeat (first | exact BK1.out | refine blk_drewN ?_ _ | refine blk_drew ?_ | refine blk_alloc ?_ _)) hb); clear HB; have HB := n0_; clear n0_; clear BK1; have BK1 := nk1_; clear nk1_; have BK2 := Aside0.mk hbox; clear hb hbox hg; have z1_wb2 : wb2.cell? ⟨g1, 0, none⟩ = some (.slice A0 l0.length c0) := (blk_cell BK1.out 0).trans rfl; have z2_wb2 : wb2.cell? ⟨g2, 0, none⟩ = some (.int .i64 a) := (blk_cell BK2.out 0).trans rfl) | ((with_reducible refine gate_dst (N := 5) rfl ?_); (try (refine gate_guard (by rfl) ?_; dsimp only)); refine box_event ?hg (N := 5) ?hd (cs := #[(.int .i64 b)]) (t := 3) ?hr ?_; (case hd => rfl); (case hg => rfl); (case hr => first | (go_simp; done) | (go_simp; rfl)); intro g3 hg wb3 hbox hb; have GE3 := Aside0.mk ((by rw [hg]; exact (below_size (by repeat (first | (with_reducible first | exact HB.out | apply below_alloc | apply pw_below_drewN | apply below_drew1) | exact HB.out))) : w.heap.size ≤ g3)); have n0_ := Aside0.mk (below_step (by repeat (first | (with_reducible first | exact HB.out | apply below_alloc | apply pw_below_drewN | apply below_drew1) | exact HB.out)) hb); have nk1_ := Aside0.mk (blk_below (by repeat (first | exact BK1.out | refine blk_drewN ?_ _ | refine blk_drew ?_ | refine blk_alloc ?_ _)) hb); have nk2_ := Aside0.mk (blk_below (by repeat (first | exact BK2.out | refine blk_drewN ?_ _ | refine blk_drew ?_ | refine blk_alloc ?_ _)) hb); clear HB; have HB := n0_; clear n0_; clear BK1; have BK1 := nk1_; clear nk1_; clear BK2; have BK2 := nk2_; clear nk2_; have BK3 := Aside0.mk hbox; clear hb hbox hg; have z1_wb3 : wb3.cell? ⟨g1, 0, none⟩ = some (.slice A0 l0.length c0) := (blk_cell BK1.out 0).trans rfl; have z2_wb3 : wb3.cell? ⟨g2, 0, none⟩ = some (.int .i64 a) := (blk_cell BK2.out 0).trans rfl; have z3_wb3 : wb3.cell? ⟨g3, 0, none⟩ = some (.int .i64 b) := (blk_cell BK3.out 0).trans rfl) | ((with_reducible refine gate_callee (f := 23) rfl ?_); refine goesL_ (some 14) rfl rfl Try.func23 (by kernel_rfl) rfl #[.slice A0 l0.length c0] rfl (by (try simp only [List.map_toArray, List.map_cons, List.map_nil]); first | done | rfl | (simp only [List.length_drop, List.length_take]; rfl)) ?_; (with_reducible refine (impl_ClassesOk.calls k _ _ l0 false _ ?side1 ?side2 A4.out).mono ?_); (case side1 => repeat (first | exact (Kd.C_below HR0.out (by repeat (first | (with_reducible first | exact HB.out | apply below_alloc | apply pw_below_drewN | apply below_drew1) | exact HB.out))) | (with_reducible refine Kd.C_alloc ?_ _) | (with_reducible refine Kd.C_drewN ?_ _) | (with_reducible refine Kd.C_drew ?_))); (case side2 => exact HC0.out); rintro e wc ⟨rfl, hb⟩; refine ⟨_, rfl, ?_⟩; have n0_ := Aside0.mk (below_step (by repeat (first | (with_reducible first | exact HB.out | apply below_alloc | apply pw_below_drewN | apply below_drew1) | exact HB.out)) hb); have nk1_ := Aside0.mk (blk_below (by repeat (first | exact BK1.out | refine blk_drewN ?_ _ | refine blk_drew ?_ | refine blk_alloc ?_ _)) hb); have nk2_ := Aside0.mk (blk_below (by repeat (first | exact BK2.out | refine blk_drewN ?_ _ | refine blk_drew ?_ | refine blk_alloc ?_ _)) hb); have nk3_ := Aside0.mk (blk_below (by repeat (first | exact BK3.out | refine blk_drewN ?_ _ | refine blk_drew ?_ | refine blk_alloc ?_ _)) hb); clear HB; have HB := n0_; clear n0_; clear BK1; have BK1 := nk1_; clear nk1_; clear BK2; have BK2 := nk2_; clear nk2_; clear BK3; have BK3 := nk3_; clear nk3_; clear hb; have z1_wc : wc.cell? ⟨g1, 0, none⟩ = some (.slice A0 l0.length c0) := (blk_cell BK1.out 0).trans rfl; have z2_wc : wc.cell? ⟨g2, 0, none⟩ = some (.int .i64 a) := (blk_cell BK2.out 0).trans rfl; have z3_wc : wc.cell? ⟨g3, 0, none⟩ = some (.int .i64 b) := (blk_cell BK3.out 0).trans rfl))
    go_ret
    exact ⟨rfl, (by repeat (first | (with_reducible first | exact HB.out | apply below_alloc | apply pw_below_drewN | apply below_drew1) | exact HB.out))⟩
end Go.Proofs.Ytgmjolngnhdafaa.P

end
section
namespace Go.Proofs.Ytgmjolngnhdafaa.P
open Go.RowKit Go.Proofs.YtgmjolngnhdafaaW.PrintWords Go.Proofs.YtgmjolngnhdafaaW.PrintLast Go.Proofs.YtgmjolngnhdafaaW.PrintMore
attribute [local go_sem] max2_int min2_int max_two min_two max_three min_three max_four min_four
set_option linter.unusedVariables false
set_option linter.unusedSimpArgs false

set_option maxHeartbeats 8000000 in
set_option maxRecDepth 100000 in
theorem laws_FnClassesMore.calls (k : Nat) (A0 : Option Addr) (c0 : Nat) (l0 : List Int) (r : Bool) (w : World) (hr0 : Kd.C (Kd.int .u8) w A0 l0.length l0) (hc0 : l0.length ≤ c0) (h : laws_FnClassesMore.f k l0 = some r) (hr_ : r = true) :
    Calls Try.prog 16 #[.slice A0 l0.length c0] w fun e w' => e = .returned (.bool r) ∧ Below w.heap.size w w' := by
  have hu38 := Try.underlying38
  have HR0 := Aside0.mk hr0
  have HC0 := Aside0.mk hc0
  clear hr0 hc0
  have HB := Aside0.mk (Below.refl w.heap.size w)
  have H : (if (l0.length : Int) > 1048576 then (some true) else ((spec_DrawClassUp.f k l0).bind fun bt564 => ((impl_ClassUp.f k bt564.1 bt564.2.1 bt564.2.2).bind fun t569 => ((spec_ClassUp.f k bt564.1 bt564.2.1 bt564.2.2).bind fun t570 => (if (t569 != t570) = true then (laws_FnClassesMore.j0 k bt564.1 bt564.2.1 bt564.2.2 t569 true) else ((laws_leIs.f k bt564.1 bt564.2.1).bind fun t571 => (if t571 = true then ((laws_leIs.f k bt564.1 bt564.2.2).bind fun t572 => (if t572 = true then (laws_FnClassesMore.j0 k bt564.1 bt564.2.1 bt564.2.2 t569 ((bt564.1.length : Int) == 5)) else (laws_FnClassesMore.j0 k bt564.1 bt564.2.1 bt564.2.2 t569 true))) else (laws_FnClassesMore.j0 k bt564.1 bt564.2.1 bt564.2.2 t569 true)))))))) = some r := h
  clear h
  by_cases c2 : (l0.length : Int) > 1048576
  · rw [if_pos c2] at H
    have c2b0 : decide (1048576 < (l0.length : Int)) = true := decide_eq_true c2
    have c2b1 : decide (1048576 < l0.length) = true := decide_eq_true (by omega)
    clear c2
    obtain rfl := Option.some.inj H
    simp only [Option.some.injEq, Prod.mk.injEq] at H
    obtain ⟨rfl⟩ := H
    go_enter Try.func16, Try.ntmps16
    go_wp2
    go_ret
    exact ⟨by first | rfl | (simp [errW_none, errW_some] <;> rfl) | (simp [*, errW_none, errW_some] <;> rfl), by repeat (first | (with_reducible first | exact HB.out | apply below_alloc | apply pw_below_drewN | apply below_drew1) | exact HB.out)⟩
  · rw [if_neg c2] at H
    have c2b0 : decide (1048576 < (l0.length : Int)) = false := decide_eq_false c2
    have c2b1 : decide (1048576 < l0.length) = false := decide_eq_false (by omega)
    clear c2
    replace H := Option.bind_eq_some_iff.mp H
    obtain ⟨⟨t564, t567, t568⟩, A30, H⟩ := H
    replace H : ((impl_ClassUp.f k t564 t567 t568).bind fun t569 => ((spec_ClassUp.f k t564 t567 t568).bind fun t570 => (if (t569 != t570) = true then (laws_FnClassesMore.j0 k t564 t567 t568 t569 true) else ((laws_leIs.f k t564 t567).bind fun t571 => (if t571 = true then ((laws_leIs.f k t564 t568).bind fun t572 => (if t572 = true then (laws_FnClassesMore.j0 k t564 t567 t568 t569 ((t564.length : Int) == 5)) else (laws_FnClassesMore.j0 k t564 t567 t568 t569 true))) else (laws_FnClassesMore.j0 k t564 t567 t568 t569 true)))))) = some r := H
    have A3 := Aside0.mk A30
    clear A30
    replace H := Option.bind_eq_some_iff.mp H
    obtain ⟨t569, A40, H⟩ := H
    replace H : ((spec_ClassUp.f k t564 t567 t568).bind fun t570 => (if (t569 != t570) = true then (laws_FnClassesMore.j0 k t564 t567 t568 t569 true) else ((laws_leIs.f k t564 t567).bind fun t571 => (if t571 = true then ((laws_leIs.f k t564 t568).bind fun t572 => (if t572 = true then (laws_FnClassesMore.j0 k t564 t567 t568 t569 ((t564.length : Int) == 5)) else (laws_FnClassesMore.j0 k t564 t567 t568 t569 true))) else (laws_FnClassesMore.j0 k t564 t567 t568 t569 true))))) = some r := H
    have A4 := Aside0.mk A40
    clear A40
    have HC5 := Aside0.mk H
    clear H
    go_enter Try.func16, Try.ntmps16
    go_upto_region 5 with (first | ((with_reducible refine gate_callee (f := 27) rfl ?_); refine goesL_ (some 14) rfl rfl Try.func27 (by kernel_rfl) rfl #[.slice A0 l0.length c0] rfl (by (try simp only [List.map_toArray, List.map_cons, List.map_nil]); first | done | rfl | (simp only [List.length_drop, List.length_take]; rfl)) ?_; (with_reducible refine (spec_DrawClassUp.calls k _ _ l0 t564 t567 t568 _ ?side1 ?side2 A3.out).mono ?_); (case side1 => repeat (first | exact HR0.out | (with_reducible refine Kd.C_alloc ?_ _) | (with_reducible refine Kd.C_drewN ?_ _) | (with_reducible refine Kd.C_drew ?_))); (case side2 => exact HC0.out); rintro e w6 ⟨v565, rfl, ho0, hb⟩; refine ⟨_, rfl, ?_⟩; have n0_ := Aside0.mk (Kd.N_lower (Kd.N_mono (ok' := fun k_ => True) ho0 (fun k_ hk_ => trivial)) (below_size (by repeat (first | (with_reducible first | exact HB.out | apply below_alloc | apply pw_below_drewN | apply below_drew1) | exact HB.out)))); have n1_ := Aside0.mk (below_step (by repeat (first | (with_reducible first | exact HB.out | apply below_alloc | apply pw_below_drewN | apply below_drew1) | exact HB.out)) hb); clear HB; have HO566 := n0_; have HB := n1_; clear n0_ n1_; (try clear hb); (try clear hb2); (try clear hk); (try clear hi); (try clear ho0); obtain ⟨Ao7, co7, eo7⟩ := Kd.N_slice HO566.out; subst eo7) | ((with_reducible refine gate_callee (f := 28) rfl ?_); refine goesL_ (some 21) rfl rfl Try.func28 (by kernel_rfl) rfl #[.slice Ao7 t564.length co7, .int .i64 t567, .int .i64 t568] rfl (by (try simp only [List.map_toArray, List.map_cons, List.map_nil]); first | done | rfl | (simp only [List.length_drop, List.length_take]; rfl)) ?_; (with_reducible refine (impl_ClassUp.calls k _ _ t564 t567 t568 t569 _ ?side1 ?side2 A4.out).mono ?_); (case side1 => repeat (first | exact (Kd.N_reads' HO566.out).2.2 | (with_reducible refine Kd.C_alloc ?_ _) | (with_reducible refine Kd.C_drewN ?_ _) | (with_reducible refine Kd.C_drew ?_))); (case side2 => exact (Kd.N_reads' HO566.out).2.1); rintro e w8 ⟨rfl, hb⟩; refine ⟨_, rfl, ?_⟩; have n0_ := Aside0.mk (Kd.N_below (by (with_reducible repeat (first | apply Kd.N_alloc | apply Kd.N_drewN | apply Kd.N_drew)); exact HO566.out) hb); have n1_ := Aside0.mk (below_step (by repeat (first | (with_reducible first | exact HB.out | apply below_alloc | apply pw_below_drewN | apply below_drew1) | exact HB.out)) hb); clear HO566; clear HB; have HO566 := n0_; have HB := n1_; clear n0_ n1_; (try clear hb); (try clear hb2); (try clear hk); (try clear hi)))
    (try simp only [Act.put, List.setIfInBounds_toArray, List.set_cons_zero, List.set_cons_succ])
    go_cut [44] (fun v44 wc => ∃ (kq : Nat) (x44_4 : Bool), v44 = .bool x44_4 ∧ Aside0 (laws_FnClassesMore.j0 kq t564 t567 t568 t569 x44_4 = some r) ∧ Aside0 (kq ≤ k) ∧ Aside0 (Kd.N k38 38 wc w.heap.size (fun _ => True) (.slice Ao7 t564.length co7) t564) ∧ Aside0 (Below w.heap.size w wc))
    case first =>
      have H := HC5.out
      clear HC5
      replace H := Option.bind_eq_some_iff.mp H
      obtain ⟨t570, A90, H⟩ := H
      replace H : (if (t569 != t570) = true then (laws_FnClassesMore.j0 k t564 t567 t568 t569 true) else ((laws_leIs.f k t564 t567).bind fun t571 => (if t571 = true then ((laws_leIs.f k t564 t568).bind fun t572 => (if t572 = true then (laws_FnClassesMore.j0 k t564 t567 t568 t569 ((t564.length : Int) == 5)) else (laws_FnClassesMore.j0 k t564 t567 t568 t569 true))) else (laws_FnClassesMore.j0 k t564 t567 t568 t569 true)))) = some r := H
      have A9 := Aside0.mk A90
      clear A90
      by_cases c10 : (t569 != t570) = true
      · rw [if_pos c10] at H
        have c10b0 : (t569 != t570) = true := c10
        (try (have c10b1 : decide (t569 = t570) = false := by simpa using c10))
        (try (have c10b2 : (t569 == t570) = false := by simpa using c10))
        (try (have c10b3 : ¬ (t569 = t570) := by simpa using c10))
        clear c10
        (first | rw [c10b0] | (simp only [i64_w, i32_w]; rw [c10b0]) | skip)
        have H' := Aside0.mk H
        clear H
        go_wp2_with (first | ((with_reducible refine gate_callee (f := 29) rfl ?_); refine goesL_ (some 26) rfl rfl Try.func29 (by kernel_rfl) rfl #[.slice Ao7 t564.length co7, .int .i64 t567, .int .i64 t568] rfl (by (try simp only [List.map_toArray, List.map_cons, List.map_nil]); first | done | rfl | (simp only [List.length_drop, List.length_take]; rfl)) ?_; (with_reducible refine (spec_ClassUp.calls k _ _ t564 t567 t568 t570 _ ?side1 ?side2 A9.out).mono ?_); (case side1 => repeat (first | exact (Kd.N_reads' HO566.out).2.2 | (with_reducible refine Kd.C_alloc ?_ _) | (with_reducible refine Kd.C_drewN ?_ _) | (with_reducible refine Kd.C_drew ?_))); (case side2 => exact (Kd.N_reads' HO566.out).2.1); rintro e w11 ⟨rfl, hb⟩; refine ⟨_, rfl, ?_⟩; have n0_ := Aside0.mk (Kd.N_below (by (with_reducible repeat (first | apply Kd.N_alloc | apply Kd.N_drewN | apply Kd.N_drew)); exact HO566.out) hb); have n1_ := Aside0.mk (below_step (by repeat (first | (with_reducible first | exact HB.out | apply below_alloc | apply pw_below_drewN | apply below_drew1) | exact HB.out)) hb); clear HO566; clear HB; have HO566 := n0_; have HB := n1_; clear n0_ n1_; (try clear hb); (try clear hb2); (try clear hk); (try clear hi)))
        go_meet
        case rel => exact ⟨_, (true), (by first | rfl | (simp; done) | (simp [*]; done)), H', ⟨by first | omega | exact Nat.le_refl _⟩, ⟨by (with_reducible repeat (first | apply Kd.N_alloc | apply Kd.N_drewN | apply Kd.N_drew)); exact HO566.out⟩, ⟨by repeat (first | (with_reducible first | exact HB.out | apply below_alloc | apply pw_below_drewN | apply below_drew1) | exact HB.out)⟩⟩
      · rw [if_neg c10] at H
        have c10b0 : (t569 != t570) = false := by simpa using c10
        (try (have c10b1 : decide (t569 = t570) = true := by simpa using c10))
        (try (have c10b2 : (t569 == t570) = true := by simpa using c10))
        clear c10
        (first | rw [c10b0] | (simp only [i64_w, i32_w]; rw [c10b0]) | skip)
        replace H := Option.bind_eq_some_iff.mp H
        obtain ⟨t571, A120, H⟩ := H
        replace H : (if t571 = true then ((laws_leIs.f k t564 t568).bind fun t572 => (if t572 = true then (laws_FnClassesMore.j0 k t564 t567 t568 t569 ((t564.length : Int) == 5)) else (laws_FnClassesMore.j0 k t564 t567 t568 t569 true))) else (laws_FnClassesMore.j0 k t564 t567 t568 t569 true)) = some r := H
        have A12 := Aside0.mk A120
        clear A120
        by_cases c13 : t571 = true
        · subst c13
          have H1 : ((laws_leIs.f k t564 t568).bind fun t572 => (if t572 = true then (laws_FnClassesMore.j0 k t564 t567 t568 t569 ((t564.length : Int) == 5)) else (laws_FnClassesMore.j0 k t564 t567 t568 t569 true))) = some r := by rw [if_pos rfl] at H; exact H
          clear H
          have H := H1
          clear H1
          replace H := Option.bind_eq_some_iff.mp H
          obtain ⟨t572, A140, H⟩ := H
          replace H : (if t572 = true then (laws_FnClassesMore.j0 k t564 t567 t568 t569 ((t564.length : Int) == 5)) else (laws_FnClassesMore.j0 k t564 t567 t568 t569 true)) = some r := H
          have A14 := Aside0.mk A140
          clear A140
          by_cases c15 : t572 = true
          · subst c15
            have H1 : (laws_FnClassesMore.j0 k t564 t567 t568 t569 ((t564.length : Int) == 5)) = some r := by rw [if_pos rfl] at H; exact H
            clear H
            have H := H1
            clear H1
            have H' := Aside0.mk H
            clear H
            go_wp2_with (first | ((with_reducible refine gate_callee (f := 29) rfl ?_); refine goesL_ (some 26) rfl rfl Try.func29 (by kernel_rfl) rfl #[.slice Ao7 t564.length co7, .int .i64 t567, .int .i64 t568] rfl (by (try simp only [List.map_toArray, List.map_cons, List.map_nil]); first | done | rfl | (simp only [List.length_drop, List.length_take]; rfl)) ?_; (with_reducible refine (spec_ClassUp.calls k _ _ t564 t567 t568 t570 _ ?side1 ?side2 A9.out).mono ?_); (case side1 => repeat (first | exact (Kd.N_reads' HO566.out).2.2 | (with_reducible refine Kd.C_alloc ?_ _) | (with_reducible refine Kd.C_drewN ?_ _) | (with_reducible refine Kd.C_drew ?_))); (case side2 => exact (Kd.N_reads' HO566.out).2.1); rintro e w16 ⟨rfl, hb⟩; refine ⟨_, rfl, ?_⟩; have n0_ := Aside0.mk (Kd.N_below (by (with_reducible repeat (first | apply Kd.N_alloc | apply Kd.N_drewN | apply Kd.N_drew)); exact HO566.out) hb); have n1_ := Aside0.mk (below_step (by repeat (first | (with_reducible first | exact HB.out | apply below_alloc | apply pw_below_drewN | apply below_drew1) | exact HB.out)) hb); clear HO566; clear HB; have HO566 := n0_; have HB := n1_; clear n0_ n1_; (try clear hb); (try clear hb2); (try clear hk); (try clear hi)) | (go_at_call 30; (with_reducible refine (laws_leIs.calls k _ _ t564 t567 true _ ?side1 ?side2 A12.out).mono ?_); (case side1 => repeat (first | exact (Kd.N_reads' HO566.out).2.2 | (with_reducible refine Kd.C_alloc ?_ _) | (with_reducible refine Kd.C_drewN ?_ _) | (with_reducible refine Kd.C_drew ?_))); (case side2 => exact (Kd.N_reads' HO566.out).2.1); rintro e w17 ⟨rfl, hb⟩; have n0_ := Aside0.mk (Kd.N_below (by (with_reducible repeat (first | apply Kd.N_alloc | apply Kd.N_drewN | apply Kd.N_drew)); exact HO566.out) hb); have n1_ := Aside0.mk (below_step (by repeat (first | (with_reducible first | exact HB.out | apply below_alloc | apply pw_below_drewN | apply below_drew1) | exact HB.out)) hb); clear HO566; clear HB; have HO566 := n0_; have HB := n1_; clear n0_ n1_; (try clear hb); (try clear hb2); (try clear hk); (try clear hi)) | (go_at_call 30; (with_reducible refine (laws_leIs.calls k _ _ t564 t568 true _ ?side1 ?side2 A14.out).mono ?_); (case side1 => repeat (first | exact (Kd.N_reads' HO566.out).2.2 | (with_reducible refine Kd.C_alloc ?_ _) | (with_reducible refine Kd.C_drewN ?_ _) | (with_reducible refine Kd.C_drew ?_))); (case side2 => exact (Kd.N_reads' HO566.out).2.1); rintro e w18 ⟨rfl, hb⟩; have n0_ := Aside0.mk (Kd.N_below (by (with_reducible repeat (first | apply Kd.N_alloc | apply Kd.N_drewN | apply Kd.N_drew)); exact HO566.out) hb); have n1_ := Aside0.mk (below_step (by repeat (first | (with_reducible first | exact HB.out | apply below_alloc | apply pw_below_drewN | apply below_drew1) | exact HB.out)) hb); clear HO566; clear HB; have HO566 := n0_; have HB := n1_; clear n0_ n1_; (try clear hb); (try clear hb2); (try clear hk); (try clear hi)))
            go_meet
            case rel => exact ⟨_, (((t564.length : Int) == 5)), (by first | rfl | (simp; done) | (simp [*]; done)), H', ⟨by first | omega | exact Nat.le_refl _⟩, ⟨by (with_reducible repeat (first | apply Kd.N_alloc | apply Kd.N_drewN | apply Kd.N_drew)); exact HO566.out⟩, ⟨by repeat (first | (with_reducible first | exact HB.out | apply below_alloc | apply pw_below_drewN | apply below_drew1) | exact HB.out)⟩⟩
          · replace c15 := Bool.eq_false_iff.mpr c15
            subst c15
            have H1 : (laws_FnClassesMore.j0 k t564 t567 t568 t569 true) = some r := by rw [if_neg (show ¬ (false = true) by decide)] at H; exact H
            clear H
            have H := H1
            clear H1
            have H' := Aside0.mk H
            clear H
            go_wp2_with (first | ((with_reducible refine gate_callee (f := 29) rfl ?_); refine goesL_ (some 26) rfl rfl Try.func29 (by kernel_rfl) rfl #[.slice Ao7 t564.length co7, .int .i64 t567, .int .i64 t568] rfl (by (try simp only [List.map_toArray, List.map_cons, List.map_nil]); first | done | rfl | (simp only [List.length_drop, List.length_take]; rfl)) ?_; (with_reducible refine (spec_ClassUp.calls k _ _ t564 t567 t568 t570 _ ?side1 ?side2 A9.out).mono ?_); (case side1 => repeat (first | exact (Kd.N_reads' HO566.out).2.2 | (with_reducible refine Kd.C_alloc ?_ _) | (with_reducible refine Kd.C_drewN ?_ _) | (with_reducible refine Kd.C_drew ?_))); (case side2 => exact (Kd.N_reads' HO566.out).2.1); rintro e w19 ⟨rfl, hb⟩; refine ⟨_, rfl, ?_⟩; have n0_ := Aside0.mk (Kd.N_below (by (with_reducible repeat (first | apply Kd.N_alloc | apply Kd.N_drewN | apply Kd.N_drew)); exact HO566.out) hb); have n1_ := Aside0.mk (below_step (by repeat (first | (with_reducible first | exact HB.out | apply below_alloc | apply pw_below_drewN | apply below_drew1) | exact HB.out)) hb); clear HO566; clear HB; have HO566 := n0_; have HB := n1_; clear n0_ n1_; (try clear hb); (try clear hb2); (try clear hk); (try clear hi)) | (go_at_call 30; (with_reducible refine (laws_leIs.calls k _ _ t564 t567 true _ ?side1 ?side2 A12.out).mono ?_); (case side1 => repeat (first | exact (Kd.N_reads' HO566.out).2.2 | (with_reducible refine Kd.C_alloc ?_ _) | (with_reducible refine Kd.C_drewN ?_ _) | (with_reducible refine Kd.C_drew ?_))); (case side2 => exact (Kd.N_reads' HO566.out).2.1); rintro e w20 ⟨rfl, hb⟩; have n0_ := Aside0.mk (Kd.N_below (by (with_reducible repeat (first | apply Kd.N_alloc | apply Kd.N_drewN | apply Kd.N_drew)); exact HO566.out) hb); have n1_ := Aside0.mk (below_step (by repeat (first | (with_reducible first | exact HB.out | apply below_alloc | apply pw_below_drewN | apply below_drew1) | exact HB.out)) hb); clear HO566; clear HB; have HO566 := n0_; have HB := n1_; clear n0_ n1_; (try clear hb); (try clear hb2); (try clear hk); (try clear hi)) | (go_at_call 30; (with_reducible refine (laws_leIs.calls k _ _ t564 t568 false _ ?side1 ?side2 A14.out).mono ?_); (case side1 => repeat (first | exact (Kd.N_reads' HO566.out).2.2 | (with_reducible refine Kd.C_alloc ?_ _) | (with_reducible refine Kd.C_drewN ?_ _) | (with_reducible refine Kd.C_drew ?_))); (case side2 => exact (Kd.N_reads' HO566.out).2.1); rintro e w21 ⟨rfl, hb⟩; have n0_ := Aside0.mk (Kd.N_below (by (with_reducible repeat (first | apply Kd.N_alloc | apply Kd.N_drewN | apply Kd.N_drew)); exact HO566.out) hb); have n1_ := Aside0.mk (below_step (by repeat (first | (with_reducible first | exact HB.out | apply below_alloc | apply pw_below_drewN | apply below_drew1) | exact HB.out)) hb); clear HO566; clear HB; have HO566 := n0_; have HB := n1_; clear n0_ n1_; (try clear hb); (try clear hb2); (try clear hk); (try clear hi)))
            go_meet
            case rel => exact ⟨_, (true), (by first | rfl | (simp; done) | (simp [*]; done)), H', ⟨by first | omega | exact Nat.le_refl _⟩, ⟨by (with_reducible repeat (first | apply Kd.N_alloc | apply Kd.N_drewN | apply Kd.N_drew)); exact HO566.out⟩, ⟨by repeat (first | (with_reducible first | exact HB.out | apply below_alloc | apply pw_below_drewN | apply below_drew1) | exact HB.out)⟩⟩
        · replace c13 := Bool.eq_false_iff.mpr c13
          subst c13
          have H1 : (laws_FnClassesMore.j0 k t564 t567 t568 t569 true) = some r := by rw [if_neg (show ¬ (false = true) by decide)] at H; exact H
          clear H
          have H := H1
          clear H1
          have H' := Aside0.mk H
          clear H
          go_wp2_with (first | ((with_reducible refine gate_callee (f := 29) rfl ?_); refine goesL_ (some 26) rfl rfl Try.func29 (by kernel_rfl) rfl #[.slice Ao7 t564.length co7, .int .i64 t567, .int .i64 t568] rfl (by (try simp only [List.map_toArray, List.map_cons, List.map_nil]); first | done | rfl | (simp only [List.length_drop, List.length_take]; rfl)) ?_; (with_reducible refine (spec_ClassUp.calls k _ _ t564 t567 t568 t570 _ ?side1 ?side2 A9.out).mono ?_); (case side1 => repeat (first | exact (Kd.N_reads' HO566.out).2.2 | (with_reducible refine Kd.C_alloc ?_ _) | (with_reducible refine Kd.C_drewN ?_ _) | (with_reducible refine Kd.C_drew ?_))); (case side2 => exact (Kd.N_reads' HO566.out).2.1); rintro e w22 ⟨rfl, hb⟩; refine ⟨_, rfl, ?_⟩; have n0_ := Aside0.mk (Kd.N_below (by (with_reducible repeat (first | apply Kd.N_alloc | apply Kd.N_drewN | apply Kd.N_drew)); exact HO566.out) hb); have n1_ := Aside0.mk (below_step (by repeat (first | (with_reducible first | exact HB.out | apply below_alloc | apply pw_below_drewN | apply below_drew1) | exact HB.out)) hb); clear HO566; clear HB; have HO566 := n0_; have HB := n1_; clear n0_ n1_; (try clear hb); (try clear hb2); (try clear hk); (try clear hi)) | (go_at_call 30; (with_reducible refine (laws_leIs.calls k _ _ t564 t567 false _ ?side1 ?side2 A12.out).mono ?_); (case side1 => repeat (first | exact (Kd.N_reads' HO566.out).2.2 | (with_reducible refine Kd.C_alloc ?_ _) | (with_reducible refine Kd.C_drewN ?_ _) | (with_reducible refine Kd.C_drew ?_))); (case side2 => exact (Kd.N_reads' HO566.out).2.1); rintro e w23 ⟨rfl, hb⟩; have n0_ := Aside0.mk (Kd.N_below (by (with_reducible repeat (first | apply Kd.N_alloc | apply Kd.N_drewN | apply Kd.N_drew)); exact HO566.out) hb); have n1_ := Aside0.mk (below_step (by repeat (first | (with_reducible first | exact HB.out | apply below_alloc | apply pw_below_drewN | apply below_drew1) | exact HB.out)) hb); clear HO566; clear HB; have HO566 := n0_; have HB := n1_; clear n0_ n1_; (try clear hb); (try clear hb2); (try clear hk); (try clear hi)))
          go_meet
          case rel => exact ⟨_, (true), (by first | rfl | (simp; done) | (simp [*]; done)), H', ⟨by first | omega | exact Nat.le_refl _⟩, ⟨by (with_reducible repeat (first | apply Kd.N_alloc | apply Kd.N_drewN | apply Kd.N_drew)); exact HO566.out⟩, ⟨by repeat (first | (with_reducible first | exact HB.out | apply below_alloc | apply pw_below_drewN | apply below_drew1) | exact HB.out)⟩⟩
    case rest =>
      clear HC5
      try clear c1
      try clear c2
      try clear c2b0
      try clear c2b1
      try clear p2
      try clear c10
      try clear c10b0
      try clear c10b1
      try clear c10b2
      try clear c13
      try clear c15
      try clear c16
      obtain ⟨kq, x44_4, rfl, HA, HJ4, HO_3, HB⟩ := hcut
      cases kq with
      | zero => exact absurd HA.out (by simp [laws_FnClassesMore.j0])
      | succ kj4 =>
        have H := HA.out
        clear HA
        simp only [laws_FnClassesMore.j0] at H
        by_cases c24 : x44_4 = true
        · subst c24
          have H1 : ((spec_ClassUp.f kj4 t564 t567 t568).bind fun t573 => (some (t569 == t573))) = some r := by rw [if_pos rfl] at H; exact H
          clear H
          have H := H1
          clear H1
          replace H := Option.bind_eq_some_iff.mp H
          obtain ⟨t573, A250, H⟩ := H
          replace H : (some (t569 == t573)) = some r := H
          have A25 := Aside0.mk A250
          clear A250
          obtain rfl := Option.some.inj H
          simp only [Option.some.injEq, Prod.mk.injEq] at H
          obtain ⟨rfl⟩ := H
          go_wp2_with (first | ((with_reducible refine gate_callee (f := 29) rfl ?_); refine goesL_ (some 49) rfl rfl Try.func29 (by kernel_rfl) rfl #[.slice Ao7 t564.length co7, .int .i64 t567, .int .i64 t568] rfl (by (try simp only [List.map_toArray, List.map_cons, List.map_nil]); first | done | rfl | (simp only [List.length_drop, List.length_take]; rfl)) ?_; (with_reducible refine (spec_ClassUp.calls kj4 _ _ t564 t567 t568 t573 _ ?side1 ?side2 A25.out).mono ?_); (case side1 => repeat (first | exact (Kd.N_reads' HO_3.out).2.2 | (with_reducible refine Kd.C_alloc ?_ _) | (with_reducible refine Kd.C_drewN ?_ _) | (with_reducible refine Kd.C_drew ?_))); (case side2 => exact (Kd.N_reads' HO_3.out).2.1); rintro e w26 ⟨rfl, hb⟩; refine ⟨_, rfl, ?_⟩; have n0_ := Aside0.mk (Kd.N_below (by (with_reducible repeat (first | apply Kd.N_alloc | apply Kd.N_drewN | apply Kd.N_drew)); exact HO_3.out) hb); have n1_ := Aside0.mk (below_step (by repeat (first | (with_reducible first | exact HB.out | apply below_alloc | apply pw_below_drewN | apply below_drew1) | exact HB.out)) hb); clear HO_3; clear HB; have HO_3 := n0_; have HB := n1_; clear n0_ n1_; (try clear hb); (try clear hb2); (try clear hk); (try clear hi)))
          go_ret
          exact ⟨by first | rfl | (simp [errW_none, errW_some] <;> rfl) | (simp [*, errW_none, errW_some] <;> rfl), by repeat (first | (with_reducible first | exact HB.out | apply below_alloc | apply pw_below_drewN | apply below_drew1) | exact HB.out)⟩
        · replace c24 := Bool.eq_false_iff.mpr c24
          subst c24
          have H1 : ((some (([] : List (S38)) : List (S38))).bind fun y574 => (if y574.length + t564.length < 4398046511104 then ((some (y574 ++ t564 : List (S38))).bind fun y577 => (if y577.length < 4398046511104 then ((some (y577 ++ [(⟨t567, (([1] : List Int))⟩ : S38)] : List (S38))).bind fun y583 => ((impl_ClassesOk.f kj4 y583).bind fun t586 => (if t586 = true then ((impl_ClassUp.f kj4 y583 t567 t568).bind fun t587 => (if (t587 == t569) = true then ((impl_ClassFields.f kj4 y583 t567).bind fun t588 => ((impl_ClassFields.f kj4 t564 t567).bind fun t591 => ((laws_leInts.f kj4 t588 t591).bind fun t594 => (if t594 = true then ((impl_ClassUp.f kj4 y583 (t564.length : Int) t567).bind fun t595 => (if t595 = true then ((impl_ClassUp.f kj4 y583 (t564.length : Int) t568).bind fun t596 => (if (t596 == t569) = true then ((impl_ClassJoin.f kj4 y583 (t564.length : Int) t568).bind fun t597 => ((impl_ClassJoin.f kj4 t564 t567 t568).bind fun t598 => (some (t597 == t598)))) else (some false))) else (some false))) else (some false))))) else (some false))) else (some false)))) else (none))) else (none))) = some r := by rw [if_neg (show ¬ (false = true) by decide)] at H; exact H
          clear H
          have H := H1
          clear H1
          obtain ⟨y574, hy574⟩ : ∃ y_ : List (S38), y_ = (([] : List (S38))) := ⟨_, rfl⟩
          replace H : (if y574.length + t564.length < 4398046511104 then ((some (y574 ++ t564 : List (S38))).bind fun y577 => (if y577.length < 4398046511104 then ((some (y577 ++ [(⟨t567, (([1] : List Int))⟩ : S38)] : List (S38))).bind fun y583 => ((impl_ClassesOk.f kj4 y583).bind fun t586 => (if t586 = true then ((impl_ClassUp.f kj4 y583 t567 t568).bind fun t587 => (if (t587 == t569) = true then ((impl_ClassFields.f kj4 y583 t567).bind fun t588 => ((impl_ClassFields.f kj4 t564 t567).bind fun t591 => ((laws_leInts.f kj4 t588 t591).bind fun t594 => (if t594 = true then ((impl_ClassUp.f kj4 y583 (t564.length : Int) t567).bind fun t595 => (if t595 = true then ((impl_ClassUp.f kj4 y583 (t564.length : Int) t568).bind fun t596 => (if (t596 == t569) = true then ((impl_ClassJoin.f kj4 y583 (t564.length : Int) t568).bind fun t597 => ((impl_ClassJoin.f kj4 t564 t567 t568).bind fun t598 => (some (t597 == t598)))) else (some false))) else (some false))) else (some false))))) else (some false))) else (some false)))) else (none))) else (none)) = some r := by first | (rw [hy574]; with_reducible exact H) | (have H2_ := (Option.bind_some _ _).symm.trans H; rw [hy574]; with_reducible exact H2_) | (have H2_ := (Option.bind_some _ _).symm.trans H; with_reducible exact H2_) | with_reducible exact H | (rw [hy574]; exact H) | exact H
          have Ny574 := Aside0.mk hy574
          clear hy574
          by_cases c27 : y574.length + t564.length < 4398046511104
          · rw [if_pos c27] at H
            have LMc27 := Aside0.mk c27
            clear c27
            obtain ⟨y577, hy577⟩ : ∃ y_ : List (S38), y_ = (y574 ++ t564) := ⟨_, rfl⟩
            replace H : (if y577.length < 4398046511104 then ((some (y577 ++ [(⟨t567, (([1] : List Int))⟩ : S38)] : List (S38))).bind fun y583 => ((impl_ClassesOk.f kj4 y583).bind fun t586 => (if t586 = true then ((impl_ClassUp.f kj4 y583 t567 t568).bind fun t587 => (if (t587 == t569) = true then ((impl_ClassFields.f kj4 y583 t567).bind fun t588 => ((impl_ClassFields.f kj4 t564 t567).bind fun t591 => ((laws_leInts.f kj4 t588 t591).bind fun t594 => (if t594 = true then ((impl_ClassUp.f kj4 y583 (t564.length : Int) t567).bind fun t595 => (if t595 = true then ((impl_ClassUp.f kj4 y583 (t564.length : Int) t568).bind fun t596 => (if (t596 == t569) = true then ((impl_ClassJoin.f kj4 y583 (t564.length : Int) t568).bind fun t597 => ((impl_ClassJoin.f kj4 t564 t567 t568).bind fun t598 => (some (t597 == t598)))) else (some false))) else (some false))) else (some false))))) else (some false))) else (some false)))) else (none)) = some r := by first | (rw [hy577]; with_reducible exact H) | (have H2_ := (Option.bind_some _ _).symm.trans H; rw [hy577]; with_reducible exact H2_) | (have H2_ := (Option.bind_some _ _).symm.trans H; with_reducible exact H2_) | with_reducible exact H | (rw [hy577]; exact H) | exact H
            have Ny577 := Aside0.mk hy577
            clear hy577
            obtain ⟨y580, hy580⟩ : ∃ y_ : List Int, y_ = (([1] : List Int)) := ⟨_, rfl⟩
            replace H : (if y577.length < 4398046511104 then ((some (y577 ++ [(⟨t567, y580⟩ : S38)] : List (S38))).bind fun y583 => ((impl_ClassesOk.f kj4 y583).bind fun t586 => (if t586 = true then ((impl_ClassUp.f kj4 y583 t567 t568).bind fun t587 => (if (t587 == t569) = true then ((impl_ClassFields.f kj4 y583 t567).bind fun t588 => ((impl_ClassFields.f kj4 t564 t567).bind fun t591 => ((laws_leInts.f kj4 t588 t591).bind fun t594 => (if t594 = true then ((impl_ClassUp.f kj4 y583 (t564.length : Int) t567).bind fun t595 => (if t595 = true then ((impl_ClassUp.f kj4 y583 (t564.length : Int) t568).bind fun t596 => (if (t596 == t569) = true then ((impl_ClassJoin.f kj4 y583 (t564.length : Int) t568).bind fun t597 => ((impl_ClassJoin.f kj4 t564 t567 t568).bind fun t598 => (some (t597 == t598)))) else (some false))) else (some false))) else (some false))))) else (some false))) else (some false)))) else (none)) = some r := by first | (rw [hy580]; with_reducible exact H) | (have H2_ := (Option.bind_some _ _).symm.trans H; rw [hy580]; with_reducible exact H2_) | (have H2_ := (Option.bind_some _ _).symm.trans H; with_reducible exact H2_) | with_reducible exact H | (rw [hy580]; exact H) | exact H
            have Ny580 := Aside0.mk hy580
            clear hy580
            by_cases c28 : y577.length < 4398046511104
            · rw [if_pos c28] at H
              have LMc28 := Aside0.mk c28
              clear c28
              obtain ⟨y583, hy583⟩ : ∃ y_ : List (S38), y_ = (y577 ++ [(⟨t567, y580⟩ : S38)]) := ⟨_, rfl⟩
              replace H : ((impl_ClassesOk.f kj4 y583).bind fun t586 => (if t586 = true then ((impl_ClassUp.f kj4 y583 t567 t568).bind fun t587 => (if (t587 == t569) = true then ((impl_ClassFields.f kj4 y583 t567).bind fun t588 => ((impl_ClassFields.f kj4 t564 t567).bind fun t591 => ((laws_leInts.f kj4 t588 t591).bind fun t594 => (if t594 = true then ((impl_ClassUp.f kj4 y583 (t564.length : Int) t567).bind fun t595 => (if t595 = true then ((impl_ClassUp.f kj4 y583 (t564.length : Int) t568).bind fun t596 => (if (t596 == t569) = true then ((impl_ClassJoin.f kj4 y583 (t564.length : Int) t568).bind fun t597 => ((impl_ClassJoin.f kj4 t564 t567 t568).bind fun t598 => (some (t597 == t598)))) else (some false))) else (some false))) else (some false))))) else (some false))) else (some false))) = some r := by first | (rw [hy583]; with_reducible exact H) | (have H2_ := (Option.bind_some _ _).symm.trans H; rw [hy583]; with_reducible exact H2_) | (have H2_ := (Option.bind_some _ _).symm.trans H; with_reducible exact H2_) | with_reducible exact H | (rw [hy583]; exact H) | exact H
              have Ny583 := Aside0.mk hy583
              clear hy583
              replace H := Option.bind_eq_some_iff.mp H
              obtain ⟨t586, A290, H⟩ := H
              replace H : (if t586 = true then ((impl_ClassUp.f kj4 y583 t567 t568).bind fun t587 => (if (t587 == t569) = true then ((impl_ClassFields.f kj4 y583 t567).bind fun t588 => ((impl_ClassFields.f kj4 t564 t567).bind fun t591 => ((laws_leInts.f kj4 t588 t591).bind fun t594 => (if t594 = true then ((impl_ClassUp.f kj4 y583 (t564.length : Int) t567).bind fun t595 => (if t595 = true then ((impl_ClassUp.f kj4 y583 (t564.length : Int) t568).bind fun t596 => (if (t596 == t569) = true then ((impl_ClassJoin.f kj4 y583 (t564.length : Int) t568).bind fun t597 => ((impl_ClassJoin.f kj4 t564 t567 t568).bind fun t598 => (some (t597 == t598)))) else (some false))) else (some false))) else (some false))))) else (some false))) else (some false)) = some r := H
              have A29 := Aside0.mk A290
              clear A290
              by_cases c30 : t586 = true
              · subst c30
                have H1 : ((impl_ClassUp.f kj4 y583 t567 t568).bind fun t587 => (if (t587 == t569) = true then ((impl_ClassFields.f kj4 y583 t567).bind fun t588 => ((impl_ClassFields.f kj4 t564 t567).bind fun t591 => ((laws_leInts.f kj4 t588 t591).bind fun t594 => (if t594 = true then ((impl_ClassUp.f kj4 y583 (t564.length : Int) t567).bind fun t595 => (if t595 = true then ((impl_ClassUp.f kj4 y583 (t564.length : Int) t568).bind fun t596 => (if (t596 == t569) = true then ((impl_ClassJoin.f kj4 y583 (t564.length : Int) t568).bind fun t597 => ((impl_ClassJoin.f kj4 t564 t567 t568).bind fun t598 => (some (t597 == t598)))) else (some false))) else (some false))) else (some false))))) else (some false))) = some r := by rw [if_pos rfl] at H; exact H
                clear H
                have H := H1
                clear H1
                replace H := Option.bind_eq_some_iff.mp H
                obtain ⟨t587, A310, H⟩ := H
                replace H : (if (t587 == t569) = true then ((impl_ClassFields.f kj4 y583 t567).bind fun t588 => ((impl_ClassFields.f kj4 t564 t567).bind fun t591 => ((laws_leInts.f kj4 t588 t591).bind fun t594 => (if t594 = true then ((impl_ClassUp.f kj4 y583 (t564.length : Int) t567).bind fun t595 => (if t595 = true then ((impl_ClassUp.f kj4 y583 (t564.length : Int) t568).bind fun t596 => (if (t596 == t569) = true then ((impl_ClassJoin.f kj4 y583 (t564.length : Int) t568).bind fun t597 => ((impl_ClassJoin.f kj4 t564 t567 t568).bind fun t598 => (some (t597 == t598)))) else (some false))) else (some false))) else (some false))))) else (some false)) = some r := H
                have A31 := Aside0.mk A310
                clear A310
                by_cases c32 : (t587 == t569) = true
                · rw [if_pos c32] at H
                  have c32b0 : (t587 == t569) = true := c32
                  (try (have c32b1 : decide (t587 = t569) = true := by simpa using c32))
                  (try (have c32b2 : (t587 == t569) = true := by simpa using c32))
                  clear c32
                  replace H := Option.bind_eq_some_iff.mp H
                  obtain ⟨t588, A330, H⟩ := H
                  replace H : ((impl_ClassFields.f kj4 t564 t567).bind fun t591 => ((laws_leInts.f kj4 t588 t591).bind fun t594 => (if t594 = true then ((impl_ClassUp.f kj4 y583 (t564.length : Int) t567).bind fun t595 => (if t595 = true then ((impl_ClassUp.f kj4 y583 (t564.length : Int) t568).bind fun t596 => (if (t596 == t569) = true then ((impl_ClassJoin.f kj4 y583 (t564.length : Int) t568).bind fun t597 => ((impl_ClassJoin.f kj4 t564 t567 t568).bind fun t598 => (some (t597 == t598)))) else (some false))) else (some false))) else (some false)))) = some r := H
                  have A33 := Aside0.mk A330
                  clear A330
                  replace H := Option.bind_eq_some_iff.mp H
                  obtain ⟨t591, A340, H⟩ := H
                  replace H : ((laws_leInts.f kj4 t588 t591).bind fun t594 => (if t594 = true then ((impl_ClassUp.f kj4 y583 (t564.length : Int) t567).bind fun t595 => (if t595 = true then ((impl_ClassUp.f kj4 y583 (t564.length : Int) t568).bind fun t596 => (if (t596 == t569) = true then ((impl_ClassJoin.f kj4 y583 (t564.length : Int) t568).bind fun t597 => ((impl_ClassJoin.f kj4 t564 t567 t568).bind fun t598 => (some (t597 == t598)))) else (some false))) else (some false))) else (some false))) = some r := H
                  have A34 := Aside0.mk A340
                  clear A340
                  replace H := Option.bind_eq_some_iff.mp H
                  obtain ⟨t594, A350, H⟩ := H
                  replace H : (if t594 = true then ((impl_ClassUp.f kj4 y583 (t564.length : Int) t567).bind fun t595 => (if t595 = true then ((impl_ClassUp.f kj4 y583 (t564.length : Int) t568).bind fun t596 => (if (t596 == t569) = true then ((impl_ClassJoin.f kj4 y583 (t564.length : Int) t568).bind fun t597 => ((impl_ClassJoin.f kj4 t564 t567 t568).bind fun t598 => (some (t597 == t598)))) else (some false))) else (some false))) else (some false)) = some r := H
                  have A35 := Aside0.mk A350
                  clear A350
                  by_cases c36 : t594 = true
                  · subst c36
                    have H1 : ((impl_ClassUp.f kj4 y583 (t564.length : Int) t567).bind fun t595 => (if t595 = true then ((impl_ClassUp.f kj4 y583 (t564.length : Int) t568).bind fun t596 => (if (t596 == t569) = true then ((impl_ClassJoin.f kj4 y583 (t564.length : Int) t568).bind fun t597 => ((impl_ClassJoin.f kj4 t564 t567 t568).bind fun t598 => (some (t597 == t598)))) else (some false))) else (some false))) = some r := by rw [if_pos rfl] at H; exact H
                    clear H
                    have H := H1
                    clear H1
                    replace H := Option.bind_eq_some_iff.mp H
                    obtain ⟨t595, A370, H⟩ := H
                    replace H : (if t595 = true then ((impl_ClassUp.f kj4 y583 (t564.length : Int) t568).bind fun t596 => (if (t596 == t569) = true then ((impl_ClassJoin.f kj4 y583 (t564.length : Int) t568).bind fun t597 => ((impl_ClassJoin.f kj4 t564 t567 t568).bind fun t598 => (some (t597 == t598)))) else (some false))) else (some false)) = some r := H
                    have A37 := Aside0.mk A370
                    clear A370
                    by_cases c38 : t595 = true
                    · subst c38
                      have H1 : ((impl_ClassUp.f kj4 y583 (t564.length : Int) t568).bind fun t596 => (if (t596 == t569) = true then ((impl_ClassJoin.f kj4 y583 (t564.length : Int) t568).bind fun t597 => ((impl_ClassJoin.f kj4 t564 t567 t568).bind fun t598 => (some (t597 == t598)))) else (some false))) = some r := by rw [if_pos rfl] at H; exact H
                      clear H
                      have H := H1
                      clear H1
                      replace H := Option.bind_eq_some_iff.mp H
                      obtain ⟨t596, A390, H⟩ := H
                      replace H : (if (t596 == t569) = true then ((impl_ClassJoin.f kj4 y583 (t564.length : Int) t568).bind fun t597 => ((impl_ClassJoin.f kj4 t564 t567 t568).bind fun t598 => (some (t597 == t598)))) else (some false)) = some r := H
                      have A39 := Aside0.mk A390
                      clear A390
                      by_cases c40 : (t596 == t569) = true
                      · rw [if_pos c40] at H
                        have c40b0 : (t596 == t569) = true := c40
                        (try (have c40b1 : decide (t596 = t569) = true := by simpa using c40))
                        (try (have c40b2 : (t596 == t569) = true := by simpa using c40))
                        clear c40
                        replace H := Option.bind_eq_some_iff.mp H
                        obtain ⟨t597, A410, H⟩ := H
                        replace H : ((impl_ClassJoin.f kj4 t564 t567 t568).bind fun t598 => (some (t597 == t598))) = some r := H
                        have A41 := Aside0.mk A410
                        clear A410
                        replace H := Option.bind_eq_some_iff.mp H
                        obtain ⟨t598, A420, H⟩ := H
                        replace H : (some (t597 == t598)) = some r := H
                        have A42 := Aside0.mk A420
                        clear A420
                        obtain rfl := Option.some.inj H
                        simp only [Option.some.injEq, Prod.mk.injEq] at H
                        obtain ⟨rfl⟩ := H
                        go_wp2_with (first | ((with_reducible refine gate_dst (N := 51) rfl ?_); (try (refine gate_guard (by rfl) ?_; dsimp only)); refine Kd.N_lit k38 _ 38 ?hg (N' := 51) ?hd (xs := ([] : List (S38))) (inner := []) (ok := (fun k_ => some k_ ≠ (.slice Ao7 t564.length co7 : Value).ownBlock)) (okp := (fun k_ => some k_ ≠ (.slice Ao7 t564.length co7 : Value).ownBlock)) ?hr ?hp (fun _ hk => hk) ((show ∀ k_, wc.heap.size ≤ k_ → (fun k_ => some k_ ≠ (.slice Ao7 t564.length co7 : Value).ownBlock) k_ from fun k_ hk => Kd.fresh' (Kd.N_lt (by (with_reducible repeat (first | apply Kd.N_alloc | apply Kd.N_drewN | apply Kd.N_drew)); exact HO_3.out)) k_ hk) _ (Nat.le_refl _)) (Below.refl _ _) (Nat.le_refl _) (by simp) ?_; (case hd => rfl); (case hg => rfl); (case hr => first | (go_simp; done) | (go_simp; rfl)); (case hp => exact (Reps.none _ _)); intro v575 w43 ho44 hb hg_ hnew_; clear hg_ hnew_; (first | rw [← Ny574.out] at ho44 | (simp only [Int.reduceToNat] at ho44; rw [← Ny574.out] at ho44)); have n0_ := Aside0.mk (Kd.N_elder' (by (with_reducible repeat (first | apply Kd.N_alloc | apply Kd.N_drewN | apply Kd.N_drew)); exact HO_3.out) (Kd.N_base ho44) hb); have n1_ := Aside0.mk (Kd.N_lower ho44 (below_size (by repeat (first | (with_reducible first | exact HB.out | apply below_alloc | apply pw_below_drewN | apply below_drew1) | exact HB.out)))); have n2_ := Aside0.mk (below_step (by repeat (first | (with_reducible first | exact HB.out | apply below_alloc | apply pw_below_drewN | apply below_drew1) | exact HB.out)) hb); clear HO_3; clear HB; have HO_3 := n0_; have HO576 := n1_; have HB := n2_; clear n0_ n1_ n2_; clear hb ho44) | ((with_reducible refine gate_builtin (b := .append) (xs := #[.tmp 51, .tmp 52]) rfl ?_); (try (refine gate_guard (by rfl) ?_; dsimp only)); at_builtin; refine Kd.N_append_rows k38 (w0 := w) w.heap.size rfl (.tmp 51) (.tmp 52) 25 38 (.agg #[(.int .i64 0), (.slice none 0 0)]) 32 rfl Try.underlying25 info38 rfl (by decide) (by omega) v575 y574 t564 _ _ _ (fun _ => True) (fun k_ => ((fun _ => True)) k_ ∧ some k_ ≠ (v575 : Value).ownBlock) rfl rfl ?aO ?aR (fun _ hk => hk) ?aF ?aB ?aS ?aL ?_; (case aR => exact (by skip; exact Kd.N_F (Kd.N_mono (ok' := (fun k_ => ((fun _ => True)) k_ ∧ some k_ ≠ (v575 : Value).ownBlock)) (HO_3.out) (fun k_ hk => ⟨trivial, hk.2⟩)))); (case aB => exact (by repeat (first | (with_reducible first | exact HB.out | apply below_alloc | apply pw_below_drewN | apply below_drew1) | exact HB.out))); (case aF => exact (fun _ _ => trivial)); (case aO => exact (by (with_reducible repeat (first | apply Kd.N_alloc | apply Kd.N_drewN | apply Kd.N_drew)); exact Kd.N_mono HO576.out (fun _ hk => trivial))); (case aS => exact (below_size (by repeat (first | (with_reducible first | exact HB.out | apply below_alloc | apply pw_below_drewN | apply below_drew1) | exact HB.out)))); (case aL => have := LMc27.out; omega); intro v578 w45 ho hb hg hat; rw [← Ny577.out] at ho; have n0_ := Aside0.mk (Kd.N_afterv (ok := (fun _ => True)) (by (with_reducible repeat (first | apply Kd.N_alloc | apply Kd.N_drewN | apply Kd.N_drew)); exact HO_3.out) hg hat); have n1_ := Aside0.mk (hb); have n2_ := Aside0.mk (ho); clear HO_3; clear HB; clear HO576; have HO_3 := n0_; have HB := n1_; have HO579 := n2_; clear n0_ n1_ n2_; clear ho hb hg hat) | ((with_reducible refine gate_dst (N := 55) rfl ?_); (try (refine gate_guard (by rfl) ?_; dsimp only)); refine Kd.R_lit (Kd.int .i64) _ 3 ?hg (N := 55) ?hd (xs := ([1] : List Int)) (inner := [.int .i64 1]) (ok := fun _ => True) (okp := fun _ => True) ?hr ?hp (fun _ hk => hk) trivial (Below.refl _ _) (Nat.le_refl _) (by simp) ?_; (case hd => rfl); (case hg => rfl); (case hr => first | (go_simp; done) | (go_simp; rfl)); (case hp => exact (Reps.one (show Kd.M (Kd.int .i64) _ _ _ 1 [.int .i64 1] from rfl) (Reps.none _ _))); intro v581 w46 ho47 hb hg_ hnew_; clear hg_ hnew_; (first | rw [← Ny580.out] at ho47 | (simp only [Int.reduceToNat] at ho47; rw [← Ny580.out] at ho47)); have n0_ := Aside0.mk (Kd.N_elder' (by (with_reducible repeat (first | apply Kd.N_alloc | apply Kd.N_drewN | apply Kd.N_drew)); exact HO_3.out) (Kd.R_base ho47) hb); have n1_ := Aside0.mk (Kd.N_elder' (by (with_reducible repeat (first | apply Kd.N_alloc | apply Kd.N_drewN | apply Kd.N_drew)); exact HO579.out) (Kd.R_base ho47) hb); have n2_ := Aside0.mk (Kd.R_lower ho47 (below_size (by repeat (first | (with_reducible first | exact HB.out | apply below_alloc | apply pw_below_drewN | apply below_drew1) | exact HB.out)))); have n3_ := Aside0.mk (below_step (by repeat (first | (with_reducible first | exact HB.out | apply below_alloc | apply pw_below_drewN | apply below_drew1) | exact HB.out)) hb); clear HO_3; clear HO579; clear HB; have HO_3 := n0_; have HO579 := n1_; have HO582 := n2_; have HB := n3_; clear n0_ n1_ n2_ n3_; clear hb ho47; obtain ⟨Ao48, co48, eo48⟩ := Kd.R_slice HO582.out; subst eo48) | ((with_reducible refine gate_builtin (b := .append) (xs := #[.tmp 53, .tmp 57]) rfl ?_); (try (refine gate_guard (by rfl) ?_; dsimp only)); at_builtin; refine Kd.N_append k38 (w0 := w) w.heap.size rfl (.tmp 53) (.tmp 57) 25 38 (.agg #[(.int .i64 0), (.slice none 0 0)]) 32 rfl Try.underlying25 info38 rfl (by decide) (by omega) v578 y577 (⟨t567, y580⟩ : S38) [.int .i64 t567, .slice Ao48 y580.length co48] (fun _ => True) (fun k_ => ((fun _ => True)) k_ ∧ some k_ ≠ (v578 : Value).ownBlock) rfl rfl ?aP (fun _ hk => hk) ?aF ?aO ?aB ?aS ?aL ?_; (case aP => exact (k38_mkF _ _ (⟨t567, y580⟩ : S38) (Kd.R_reads' (Kd.R_mono (ok' := (fun k_ => ((fun _ => True)) k_ ∧ some k_ ≠ (v578 : Value).ownBlock)) (Kd.R_apart' (HO582.out) (Kd.N_typed HO579.out) (by decide)) (fun k_ hk => ⟨trivial, hk.2⟩))).2.1 (Kd.R_F (Kd.R_mono (ok' := (fun k_ => ((fun _ => True)) k_ ∧ some k_ ≠ (v578 : Value).ownBlock)) (Kd.R_apart' (HO582.out) (Kd.N_typed HO579.out) (by decide)) (fun k_ hk => ⟨trivial, hk.2⟩))))); (case aB => exact (by repeat (first | (with_reducible first | exact HB.out | apply below_alloc | apply pw_below_drewN | apply below_drew1) | exact HB.out))); (case aF => exact (fun _ _ => trivial)); (case aO => exact (by (with_reducible repeat (first | apply Kd.N_alloc | apply Kd.N_drewN | apply Kd.N_drew)); exact Kd.N_mono HO579.out (fun _ hk => trivial))); (case aS => exact (below_size (by repeat (first | (with_reducible first | exact HB.out | apply below_alloc | apply pw_below_drewN | apply below_drew1) | exact HB.out)))); (case aL => have := LMc28.out; omega); intro v584 w49 ho hb hg hat; rw [← Ny583.out] at ho; have n0_ := Aside0.mk (Kd.N_afterv (ok := (fun k_ => some k_ ≠ (.slice Ao48 y580.length co48 : Value).ownBlock)) (by (with_reducible repeat (first | apply Kd.N_alloc | apply Kd.N_drewN | apply Kd.N_drew)); exact Kd.N_mono HO_3.out (fun _ hk => ⟨hk.2, hk.1.2⟩)) hg hat); have n1_ := Aside0.mk (hb); have n2_ := Aside0.mk (ho); clear HO_3; clear HB; clear HO579; clear HO582; have HO_3 := n0_; have HB := n1_; have HO585 := n2_; clear n0_ n1_ n2_; clear ho hb hg hat; obtain ⟨Ao50, co50, eo50⟩ := Kd.N_slice HO585.out; subst eo50) | ((with_reducible refine gate_callee (f := 23) rfl ?_); refine goesL_ (some 62) rfl rfl Try.func23 (by kernel_rfl) rfl #[.slice Ao50 y583.length co50] rfl (by (try simp only [List.map_toArray, List.map_cons, List.map_nil]); first | done | rfl | (simp only [List.length_drop, List.length_take]; rfl)) ?_; (with_reducible refine (impl_ClassesOk.calls kj4 _ _ y583 true _ ?side1 ?side2 A29.out).mono ?_); (case side1 => repeat (first | exact (Kd.N_reads' HO585.out).2.2 | (with_reducible refine Kd.C_alloc ?_ _) | (with_reducible refine Kd.C_drewN ?_ _) | (with_reducible refine Kd.C_drew ?_))); (case side2 => exact (Kd.N_reads' HO585.out).2.1); rintro e w51 ⟨rfl, hb⟩; refine ⟨_, rfl, ?_⟩; have n0_ := Aside0.mk (Kd.N_below (by (with_reducible repeat (first | apply Kd.N_alloc | apply Kd.N_drewN | apply Kd.N_drew)); exact HO_3.out) hb); have n1_ := Aside0.mk (Kd.N_below (by (with_reducible repeat (first | apply Kd.N_alloc | apply Kd.N_drewN | apply Kd.N_drew)); exact HO585.out) hb); have n2_ := Aside0.mk (below_step (by repeat (first | (with_reducible first | exact HB.out | apply below_alloc | apply pw_below_drewN | apply below_drew1) | exact HB.out)) hb); clear HO_3; clear HO585; clear HB; have HO_3 := n0_; have HO585 := n1_; have HB := n2_; clear n0_ n1_ n2_; (try clear hb); (try clear hb2); (try clear hk); (try clear hi)) | (go_at_call 28; (with_reducible refine (impl_ClassUp.calls kj4 _ _ y583 t567 t568 t587 _ ?side1 ?side2 A31.out).mono ?_); (case side1 => repeat (first | exact (Kd.N_reads' HO585.out).2.2 | (with_reducible refine Kd.C_alloc ?_ _) | (with_reducible refine Kd.C_drewN ?_ _) | (with_reducible refine Kd.C_drew ?_))); (case side2 => exact (Kd.N_reads' HO585.out).2.1); rintro e w52 ⟨rfl, hb⟩; have n0_ := Aside0.mk (Kd.N_below (by (with_reducible repeat (first | apply Kd.N_alloc | apply Kd.N_drewN | apply Kd.N_drew)); exact HO_3.out) hb); have n1_ := Aside0.mk (Kd.N_below (by (with_reducible repeat (first | apply Kd.N_alloc | apply Kd.N_drewN | apply Kd.N_drew)); exact HO585.out) hb); have n2_ := Aside0.mk (below_step (by repeat (first | (with_reducible first | exact HB.out | apply below_alloc | apply pw_below_drewN | apply below_drew1) | exact HB.out)) hb); clear HO_3; clear HO585; clear HB; have HO_3 := n0_; have HO585 := n1_; have HB := n2_; clear n0_ n1_ n2_; (try clear hb); (try clear hb2); (try clear hk); (try clear hi)) | (go_at_call 32; (with_reducible refine (impl_ClassFields.calls kj4 _ _ y583 t567 t588 _ ?side1 ?side2 A33.out).mono ?_); (case side1 => repeat (first | exact (Kd.N_reads' HO585.out).2.2 | (with_reducible refine Kd.C_alloc ?_ _) | (with_reducible refine Kd.C_drewN ?_ _) | (with_reducible refine Kd.C_drew ?_))); (case side2 => exact (Kd.N_reads' HO585.out).2.1); rintro e w53 ⟨v589, rfl, ho0, hb⟩; have n0_ := Aside0.mk (Kd.N_elder' (by (with_reducible repeat (first | apply Kd.N_alloc | apply Kd.N_drewN | apply Kd.N_drew)); exact HO_3.out) (Kd.R_base ho0) hb); have n1_ := Aside0.mk (Kd.N_elder' (by (with_reducible repeat (first | apply Kd.N_alloc | apply Kd.N_drewN | apply Kd.N_drew)); exact HO585.out) (Kd.R_base ho0) hb); have n2_ := Aside0.mk (Kd.R_lower ho0 (below_size (by repeat (first | (with_reducible first | exact HB.out | apply below_alloc | apply pw_below_drewN | apply below_drew1) | exact HB.out)))); have n3_ := Aside0.mk (below_step (by repeat (first | (with_reducible first | exact HB.out | apply below_alloc | apply pw_below_drewN | apply below_drew1) | exact HB.out)) hb); clear HO_3; clear HO585; clear HB; have HO_3 := n0_; have HO585 := n1_; have HO590 := n2_; have HB := n3_; clear n0_ n1_ n2_ n3_; (try clear hb); (try clear hb2); (try clear hk); (try clear hi); (try clear ho0)) | (go_at_call 32; (with_reducible refine (impl_ClassFields.calls kj4 _ _ t564 t567 t591 _ ?side1 ?side2 A34.out).mono ?_); (case side1 => repeat (first | exact (Kd.N_reads' HO_3.out).2.2 | (with_reducible refine Kd.C_alloc ?_ _) | (with_reducible refine Kd.C_drewN ?_ _) | (with_reducible refine Kd.C_drew ?_))); (case side2 => exact (Kd.N_reads' HO_3.out).2.1); rintro e w54 ⟨v592, rfl, ho0, hb⟩; have n0_ := Aside0.mk (Kd.N_elder' (by (with_reducible repeat (first | apply Kd.N_alloc | apply Kd.N_drewN | apply Kd.N_drew)); exact HO_3.out) (Kd.R_base ho0) hb); have n1_ := Aside0.mk (Kd.N_elder' (by (with_reducible repeat (first | apply Kd.N_alloc | apply Kd.N_drewN | apply Kd.N_drew)); exact HO585.out) (Kd.R_base ho0) hb); have n2_ := Aside0.mk (Kd.R_elder' (by (with_reducible repeat (first | apply Kd.R_alloc | apply Kd.R_drewN | apply Kd.R_drew)); exact HO590.out) (Kd.R_base ho0) hb); have n3_ := Aside0.mk (Kd.R_lower (Kd.R_new' ho0 (Kd.R_lt (by (with_reducible repeat (first | apply Kd.R_alloc | apply Kd.R_drewN | apply Kd.R_drew)); exact HO590.out))) (below_size (by repeat (first | (with_reducible first | exact HB.out | apply below_alloc | apply pw_below_drewN | apply below_drew1) | exact HB.out)))); have n4_ := Aside0.mk (below_step (by repeat (first | (with_reducible first | exact HB.out | apply below_alloc | apply pw_below_drewN | apply below_drew1) | exact HB.out)) hb); clear HO_3; clear HO585; clear HO590; clear HB; have HO_3 := n0_; have HO585 := n1_; have HO590 := n2_; have HO593 := n3_; have HB := n4_; clear n0_ n1_ n2_ n3_ n4_; (try clear hb); (try clear hb2); (try clear hk); (try clear hi); (try clear ho0); obtain ⟨Ao55, co55, eo55⟩ := Kd.R_slice HO590.out; subst eo55; obtain ⟨Ao56, co56, eo56⟩ := Kd.R_slice HO593.out; subst eo56) | (go_at_call 33; (with_reducible refine (laws_leInts.calls kj4 _ _ t588 _ _ t591 true _ ?side1 ?side2 ?side3 ?side4 A35.out).mono ?_); (case side1 => repeat (first | exact (Kd.R_reads' HO590.out).2.2 | (with_reducible refine Kd.C_alloc ?_ _) | (with_reducible refine Kd.C_drewN ?_ _) | (with_reducible refine Kd.C_drew ?_))); (case side2 => exact (Kd.R_reads' HO590.out).2.1); (case side3 => repeat (first | exact (Kd.R_reads' HO593.out).2.2 | (with_reducible refine Kd.C_alloc ?_ _) | (with_reducible refine Kd.C_drewN ?_ _) | (with_reducible refine Kd.C_drew ?_))); (case side4 => exact (Kd.R_reads' HO593.out).2.1); rintro e w' ⟨rfl, ⟨nd, rfl⟩⟩) | (go_at_call 28; (with_reducible refine (impl_ClassUp.calls kj4 _ _ y583 (t564.length : Int) t567 true _ ?side1 ?side2 A37.out).mono ?_); (case side1 => repeat (first | exact (Kd.N_reads' HO585.out).2.2 | (with_reducible refine Kd.C_alloc ?_ _) | (with_reducible refine Kd.C_drewN ?_ _) | (with_reducible refine Kd.C_drew ?_))); (case side2 => exact (Kd.N_reads' HO585.out).2.1); rintro e w57 ⟨rfl, hb⟩; have n0_ := Aside0.mk (Kd.N_below (by (with_reducible repeat (first | apply Kd.N_alloc | apply Kd.N_drewN | apply Kd.N_drew)); exact HO_3.out) hb); have n1_ := Aside0.mk (Kd.N_below (by (with_reducible repeat (first | apply Kd.N_alloc | apply Kd.N_drewN | apply Kd.N_drew)); exact HO585.out) hb); have n2_ := Aside0.mk (Kd.R_below (by (with_reducible repeat (first | apply Kd.R_alloc | apply Kd.R_drewN | apply Kd.R_drew)); exact HO590.out) hb); have n3_ := Aside0.mk (Kd.R_below (by (with_reducible repeat (first | apply Kd.R_alloc | apply Kd.R_drewN | apply Kd.R_drew)); exact HO593.out) hb); have n4_ := Aside0.mk (below_step (by repeat (first | (with_reducible first | exact HB.out | apply below_alloc | apply pw_below_drewN | apply below_drew1) | exact HB.out)) hb); clear HO_3; clear HO585; clear HO590; clear HO593; clear HB; have HO_3 := n0_; have HO585 := n1_; have HO590 := n2_; have HO593 := n3_; have HB := n4_; clear n0_ n1_ n2_ n3_ n4_; (try clear hb); (try clear hb2); (try clear hk); (try clear hi)) | (go_at_call 28; (with_reducible refine (impl_ClassUp.calls kj4 _ _ y583 (t564.length : Int) t568 t596 _ ?side1 ?side2 A39.out).mono ?_); (case side1 => repeat (first | exact (Kd.N_reads' HO585.out).2.2 | (with_reducible refine Kd.C_alloc ?_ _) | (with_reducible refine Kd.C_drewN ?_ _) | (with_reducible refine Kd.C_drew ?_))); (case side2 => exact (Kd.N_reads' HO585.out).2.1); rintro e w58 ⟨rfl, hb⟩; have n0_ := Aside0.mk (Kd.N_below (by (with_reducible repeat (first | apply Kd.N_alloc | apply Kd.N_drewN | apply Kd.N_drew)); exact HO_3.out) hb); have n1_ := Aside0.mk (Kd.N_below (by (with_reducible repeat (first | apply Kd.N_alloc | apply Kd.N_drewN | apply Kd.N_drew)); exact HO585.out) hb); have n2_ := Aside0.mk (Kd.R_below (by (with_reducible repeat (first | apply Kd.R_alloc | apply Kd.R_drewN | apply Kd.R_drew)); exact HO590.out) hb); have n3_ := Aside0.mk (Kd.R_below (by (with_reducible repeat (first | apply Kd.R_alloc | apply Kd.R_drewN | apply Kd.R_drew)); exact HO593.out) hb); have n4_ := Aside0.mk (below_step (by repeat (first | (with_reducible first | exact HB.out | apply below_alloc | apply pw_below_drewN | apply below_drew1) | exact HB.out)) hb); clear HO_3; clear HO585; clear HO590; clear HO593; clear HB; have HO_3 := n0_; have HO585 := n1_; have HO590 := n2_; have HO593 := n3_; have HB := n4_; clear n0_ n1_ n2_ n3_ n4_; (try clear hb); (try clear hb2); (try clear hk); (try clear hi)) | (go_at_call 43; (with_reducible refine (impl_ClassJoin.calls kj4 _ _ y583 (t564.length : Int) t568 t597 _ ?side1 ?side2 A41.out).mono ?_); (case side1 => repeat (first | exact (Kd.N_reads' HO585.out).2.2 | (with_reducible refine Kd.C_alloc ?_ _) | (with_reducible refine Kd.C_drewN ?_ _) | (with_reducible refine Kd.C_drew ?_))); (case side2 => exact (Kd.N_reads' HO585.out).2.1); rintro e w59 ⟨rfl, hb⟩; have n0_ := Aside0.mk (Kd.N_below (by (with_reducible repeat (first | apply Kd.N_alloc | apply Kd.N_drewN | apply Kd.N_drew)); exact HO_3.out) hb); have n1_ := Aside0.mk (Kd.N_below (by (with_reducible repeat (first | apply Kd.N_alloc | apply Kd.N_drewN | apply Kd.N_drew)); exact HO585.out) hb); have n2_ := Aside0.mk (Kd.R_below (by (with_reducible repeat (first | apply Kd.R_alloc | apply Kd.R_drewN | apply Kd.R_drew)); exact HO590.out) hb); have n3_ := Aside0.mk (Kd.R_below (by (with_reducible repeat (first | apply Kd.R_alloc | apply Kd.R_drewN | apply Kd.R_drew)); exact HO593.out) hb); have n4_ := Aside0.mk (below_step (by repeat (first | (with_reducible first | exact HB.out | apply below_alloc | apply pw_below_drewN | apply below_drew1) | exact HB.out)) hb); clear HO_3; clear HO585; clear HO590; clear HO593; clear HB; have HO_3 := n0_; have HO585 := n1_; have HO590 := n2_; have HO593 := n3_; have HB := n4_; clear n0_ n1_ n2_ n3_ n4_; (try clear hb); (try clear hb2); (try clear hk); (try clear hi)) | (go_at_call 43; (with_reducible refine (impl_ClassJoin.calls kj4 _ _ t564 t567 t568 t598 _ ?side1 ?side2 A42.out).mono ?_); (case side1 => repeat (first | exact (Kd.N_reads' HO_3.out).2.2 | (with_reducible refine Kd.C_alloc ?_ _) | (with_reducible refine Kd.C_drewN ?_ _) | (with_reducible refine Kd.C_drew ?_))); (case side2 => exact (Kd.N_reads' HO_3.out).2.1); rintro e w60 ⟨rfl, hb⟩; have n0_ := Aside0.mk (Kd.N_below (by (with_reducible repeat (first | apply Kd.N_alloc | apply Kd.N_drewN | apply Kd.N_drew)); exact HO_3.out) hb); have n1_ := Aside0.mk (Kd.N_below (by (with_reducible repeat (first | apply Kd.N_alloc | apply Kd.N_drewN | apply Kd.N_drew)); exact HO585.out) hb); have n2_ := Aside0.mk (Kd.R_below (by (with_reducible repeat (first | apply Kd.R_alloc | apply Kd.R_drewN | apply Kd.R_drew)); exact HO590.out) hb); have n3_ := Aside0.mk (Kd.R_below (by (with_reducible repeat (first | apply Kd.R_alloc | apply Kd.R_drewN | apply Kd.R_drew)); exact HO593.out) hb); have n4_ := Aside0.mk (below_step (by repeat (first | (with_reducible first | exact HB.out | apply below_alloc | apply pw_below_drewN | apply below_drew1) | exact HB.out)) hb); clear HO_3; clear HO585; clear HO590; clear HO593; clear HB; have HO_3 := n0_; have HO585 := n1_; have HO590 := n2_; have HO593 := n3_; have HB := n4_; clear n0_ n1_ n2_ n3_ n4_; (try clear hb); (try clear hb2); (try clear hk); (try clear hi)))
                        go_ret
                        exact ⟨by first | rfl | (simp [errW_none, errW_some] <;> rfl) | (simp [*, errW_none, errW_some] <;> rfl), by repeat (first | (with_reducible first | exact HB.out | apply below_alloc | apply pw_below_drewN | apply below_drew1) | exact HB.out)⟩
                      · rw [if_neg c40] at H
                        have c40b0 : (t596 == t569) = false := by simpa using c40
                        (try (have c40b1 : decide (t596 = t569) = false := by simpa using c40))
                        (try (have c40b2 : (t596 == t569) = false := by simpa using c40))
                        (try (have c40b3 : ¬ (t596 = t569) := by simpa using c40))
                        clear c40
                        obtain rfl := Option.some.inj H
                        exact absurd hr_ (by decide)
                    · replace c38 := Bool.eq_false_iff.mpr c38
                      subst c38
                      have H1 : (some false) = some r := by rw [if_neg (show ¬ (false = true) by decide)] at H; exact H
                      clear H
                      have H := H1
                      clear H1
                      obtain rfl := Option.some.inj H
                      exact absurd hr_ (by decide)
                  · replace c36 := Bool.eq_false_iff.mpr c36
                    subst c36
                    have H1 : (some false) = some r := by rw [if_neg (show ¬ (false = true) by decide)] at H; exact H
                    clear H
                    have H := H1
                    clear H1
                    obtain rfl := Option.some.inj H
                    exact absurd hr_ (by decide)
                · rw [if_neg c32] at H
                  have c32b0 : (t587 == t569) = false := by simpa using c32
                  (try (have c32b1 : decide (t587 = t569) = false := by simpa using c32))
                  (try (have c32b2 : (t587 == t569) = false := by simpa using c32))
                  (try (have c32b3 : ¬ (t587 = t569) := by simpa using c32))
                  clear c32
                  obtain rfl := Option.some.inj H
                  exact absurd hr_ (by decide)
              · replace c30 := Bool.eq_false_iff.mpr c30
                subst c30
                have H1 : (some false) = some r := by rw [if_neg (show ¬ (false = true) by decide)] at H; exact H
                clear H
                have H := H1
                clear H1
                obtain rfl := Option.some.inj H
                exact absurd hr_ (by decide)
            · rw [if_neg c28] at H
              exact absurd H (by simp)
          · rw [if_neg c27] at H
            exact absurd H (by simp)

theorem laws_FnClassesMore.walk (P : laws_FnClassesMore.Pure) (a0 : Option Addr) (len0 cap0 : Nat) (z0 : List Int) (w : World) (w0 : (a0 = none ∧ len0 = 0 ∧ cap0 = 0 ∧ z0 = []) ∨ ∃ x, a0 = some x ∧ len0 ≤ cap0 ∧ cap0 ≤ maxLen ∧ z0.length = cap0 ∧ (∀ i, i < z0.length → w.cell? (x.add i) = some (.int .u8 (z0.getD i 0))) ∧ ∀ n ∈ z0, (Lit.int .u8 n).wf = true) (y0 : len0 * 1 ≤ 140737488351232) :
    Calls Try.prog 16 #[.slice a0 len0 cap0] w fun e w' => e = .returned (.bool true) ∧ Below w.heap.size w w' := by
  obtain ⟨l0, rfl, hr0, hm0, hw0, hc0⟩ := ReadsInt.ofRowC w0
  obtain ⟨k, h⟩ := P l0 hm0 y0 hw0
  refine (laws_FnClassesMore.calls k _ _ l0 true w (Kd.C_of_reads (d := (0 : Int)) (h1 := fun _ => rfl) hr0) hc0 h rfl).mono ?_
  rintro e w' ⟨rfl, hd⟩
  exact ⟨rfl, hd⟩

end Go.Proofs.Ytgmjolngnhdafaa.P

end
section
namespace Go.Proofs.Ytgmjolngnhdafaa.Kit
open Go Go.RowKit Go.Proofs.YtgmjolngnhdafaaW.PrintWords
set_option linter.unusedVariables false

/-- From some number of rounds on the answer is one that has P. -/
def Evp {α : Type} (g : Nat → Option α) (P : α → Prop) : Prop := ∃ r, Ev g r ∧ P r
theorem Evp.pure {α : Type} {P : α → Prop} (r : α) (h : P r) : Evp (fun _ => some r) P := ⟨r, Ev.now r, h⟩
theorem Evp.bind {α β : Type} {g : Nat → Option α} {f : Nat → α → Option β} {P : α → Prop} {Q : β → Prop} (h : Evp g P) (k : ∀ a, P a → Evp (fun n => f n a) Q) : Evp (fun n => (g n).bind (f n)) Q := by
  obtain ⟨a, ha, hp⟩ := h
  obtain ⟨r, hr, hq⟩ := k a hp
  exact ⟨r, Ev.bind ha hr, hq⟩
theorem Evp.step {α : Type} {g f : Nat → Option α} {P : α → Prop} (h : ∀ k, g (k + 1) = f k) (k : Evp f P) : Evp g P := by
  obtain ⟨r, hr, hp⟩ := k
  exact ⟨r, Ev.step h hr, hp⟩
theorem Evp.congr {α : Type} {g f : Nat → Option α} {P : α → Prop} (h : ∀ k, g k = f k) (k : Evp f P) : Evp g P := by
  obtain ⟨r, hr, hp⟩ := k
  exact ⟨r, Ev.congr h hr, hp⟩
theorem Evp.mono {α : Type} {g : Nat → Option α} {P Q : α → Prop} (h : Evp g P) (hpq : ∀ r, P r → Q r) : Evp g Q := by
  obtain ⟨r, hr, hp⟩ := h
  exact ⟨r, hr, hpq r hp⟩
theorem Evp.yes {α : Type} {c : Prop} [Decidable c] {f g : Nat → Option α} {P : α → Prop} (hc : c) (h : Evp f P) : Evp (fun n => if c then f n else g n) P := by
  simp only [if_pos hc]; exact h
theorem Evp.no {α : Type} {c : Prop} [Decidable c] {f g : Nat → Option α} {P : α → Prop} (hc : ¬ c) (h : Evp g P) : Evp (fun n => if c then f n else g n) P := by
  simp only [if_neg hc]; exact h
theorem Evp.ite {α : Type} {c : Prop} [Decidable c] {f g : Nat → Option α} {P : α → Prop} (h : c → Evp f P) (k : ¬ c → Evp g P) : Evp (fun n => if c then f n else g n) P := by
  by_cases hc : c
  · exact Evp.yes hc (h hc)
  · exact Evp.no hc (k hc)
theorem Evp.ev {α : Type} {g : Nat → Option α} {r : α} (h : Ev g r) : Evp g (fun x => x = r) := ⟨r, h, rfl⟩
theorem Ev.of_evp {α : Type} {g : Nat → Option α} {r : α} (h : Evp g (fun x => x = r)) : Ev g r := by
  obtain ⟨x, hx, rfl⟩ := h
  exact hx
theorem Evp.const {α : Type} {o : Option α} {r : α} {P : α → Prop} (h : o = some r) (hp : P r) : Evp (fun _ => o) P := ⟨r, ⟨0, fun _ _ => h⟩, hp⟩
theorem Evp.rounds {α : Type} {g : Nat → Option α} {r : α} (h : Evp g (fun x => x = r)) : ∃ k, g k = some r := (Ev.of_evp h).rounds
/-- Two that come to answers. -/
theorem Evp.and {α : Type} {g : Nat → Option α} {P Q : α → Prop} (h : Evp g P) (k : Evp g Q) : Evp g (fun x => P x ∧ Q x) := by
  obtain ⟨r, ⟨K, hr⟩, hp⟩ := h
  obtain ⟨r', ⟨K', hr'⟩, hq⟩ := k
  have e : r = r' := Option.some.inj ((hr (max K K') (by omega)).symm.trans (hr' (max K K') (by omega)))
  subst e
  exact ⟨r, ⟨K, hr⟩, hp, hq⟩

/-- A loop over places, by what is left. -/
theorem Evp.for_ {ρ : Type} {n : Nat} {g : Nat → Nat → Option ρ} {R : Nat → ρ → Prop} (hend : Evp (g n) (R n)) (hstep : ∀ i, i < n → Evp (g (i + 1)) (R (i + 1)) → Evp (g i) (R i)) : ∀ i, i ≤ n → Evp (g i) (R i) := by
  have key : ∀ d i, i + d = n → Evp (g i) (R i) := by
    intro d
    induction d with
    | zero => intro i hi; have : i = n := by omega
              subst this; exact hend
    | succ d ih => intro i hi; exact hstep i (by omega) (ih (i + 1) (by omega))
  intro i hi
  exact key (n - i) i (by omega)
/-- A loop over places with a state. -/
theorem Evp.fors {σ ρ : Type} {n : Nat} {g : Nat → σ → Nat → Option ρ} {I : Nat → σ → Prop} {R : Nat → σ → ρ → Prop} (hend : ∀ s, I n s → Evp (g n s) (R n s))
    (hstep : ∀ i, i < n → (∀ s, I (i + 1) s → Evp (g (i + 1) s) (R (i + 1) s)) → ∀ s, I i s → Evp (g i s) (R i s)) : ∀ i, i ≤ n → ∀ s, I i s → Evp (g i s) (R i s) := by
  have key : ∀ d i, i + d = n → ∀ s, I i s → Evp (g i s) (R i s) := by
    intro d
    induction d with
    | zero => intro i hi; have : i = n := by omega
              subst this; exact hend
    | succ d ih => intro i hi; exact hstep i (by omega) (ih (i + 1) (by omega))
  intro i hi
  exact key (n - i) i (by omega)
theorem drop_at {α : Type} {xs : List α} {i : Nat} (h : i < xs.length) : xs.drop i = xs[i] :: xs.drop (i + 1) := List.drop_eq_getElem_cons h
theorem getD_at {α : Type} {xs : List α} {i : Nat} (h : i < xs.length) (d : α) : xs.getD i d = xs[i] := by
  rw [List.getD_eq_getElem?_getD, List.getElem?_eq_getElem h]; rfl
theorem w64' {i n : Nat} (h : i < n) (hn : n ≤ 9223372036854775807) : wrap64 ((i : Int) + 1) = ((i + 1 : Nat) : Int) := by unfold wrap64; omega
theorem w64 {n : Int} (h0 : -9223372036854775808 ≤ n) (h1 : n ≤ 9223372036854775807) : wrap64 n = n := by unfold wrap64; omega
theorem tmod_pos {a b : Int} (h0 : 0 ≤ a) : Int.tmod a b = a % b := Int.tmod_eq_emod_of_nonneg h0
theorem tdiv_pos {a b : Int} (h0 : 0 ≤ a) : Int.tdiv a b = a / b := Int.tdiv_eq_ediv_of_nonneg h0
theorem tmod_lo {a b : Int} (h0 : 0 ≤ a) (hb : 0 < b) : 0 ≤ Int.tmod a b ∧ Int.tmod a b < b := by
  rw [tmod_pos h0]; exact ⟨Int.emod_nonneg _ (by omega), Int.emod_lt_of_pos _ hb⟩
theorem tmod256 (n : Int) : Int.tmod n 256 = if 0 ≤ n then n % 256 else -((-n) % 256) := by
  split
  · rename_i h; exact Int.tmod_eq_emod_of_nonneg h
  · rename_i h
    have h1 : Int.tmod (-n) 256 = (-n) % 256 := Int.tmod_eq_emod_of_nonneg (by omega)
    rw [Int.neg_tmod] at h1; omega
theorem tmod256' (n : Int) : ∃ m, Int.tmod n 256 = m ∧ (0 ≤ n ∧ m = n % 256 ∨ n < 0 ∧ m = -((-n) % 256)) := by
  refine ⟨_, tmod256 n, ?_⟩
  by_cases h : 0 ≤ n
  · exact .inl ⟨h, if_pos h⟩
  · exact .inr ⟨by omega, if_neg h⟩
theorem i8wrap (n : Int) : IntKind.i8.wrap n = (n + 128) % 256 - 128 := by
  simp [IntKind.wrap, IntKind.bits, IntKind.signed]
  omega
theorem xor_nonneg {a b : Int} (ha : 0 ≤ a) (ha' : a < 4611686018427387904) (hb : 0 ≤ b) (hb' : b < 4611686018427387904) :
    0 ≤ Go.bits .xor .i64 a b ∧ Go.bits .xor .i64 a b < 4611686018427387904 := by
  obtain ⟨x, rfl⟩ := Int.eq_ofNat_of_zero_le ha
  obtain ⟨y, rfl⟩ := Int.eq_ofNat_of_zero_le hb
  have hx : x < 2 ^ 62 := by omega
  have hy : y < 2 ^ 62 := by omega
  have hxy := Nat.xor_lt_two_pow hx hy
  have e : Go.bits .xor .i64 (x : Int) (y : Int) = ((x ^^^ y : Nat) : Int) := by
    show IntKind.i64.wrap (((BitVec.ofInt 64 (x : Int)) ^^^ (BitVec.ofInt 64 (y : Int))).toNat : Int) = _
    rw [BitVec.toNat_xor]
    have e1 : (BitVec.ofInt 64 (x : Int)).toNat = x := by simp; omega
    have e2 : (BitVec.ofInt 64 (y : Int)).toNat = y := by simp; omega
    rw [e1, e2, IntKind.wrap_i64]
    omega
  rw [e]
  omega
end Go.Proofs.Ytgmjolngnhdafaa.Kit

end
section
namespace Go.Proofs.Ytgmjolngnhdafaa.Kit
open Go Go.RowKit Go.Proofs.YtgmjolngnhdafaaW.PrintWords Go.Proofs.Ytgmjolngnhdafaa.P
set_option linter.unusedVariables false

/-- Bytes of a code, as many as are read. -/
def Bytes (bs : List Int) : Prop := bs.length ≤ 2000 ∧ ∀ x ∈ bs, 0 ≤ x ∧ x ≤ 255
theorem Bytes.rd {bs : List Int} (h : Bytes bs) (i : Int) : 0 ≤ rd bs i ∧ rd bs i ≤ 255 := by
  unfold Go.Proofs.YtgmjolngnhdafaaW.PrintWords.rd
  rw [List.getD_eq_getElem?_getD]
  by_cases hi : i.toNat < bs.length
  · rw [List.getElem?_eq_getElem hi]
    exact h.2 _ (List.getElem_mem hi)
  · rw [List.getElem?_eq_none (by omega)]
    simp
theorem open_evp {l : List Int} (h : ∀ x ∈ l, (Lit.int .u8 x).wf = true) : ∃ bs, spec_l6Open.f l = some (bs, 0) ∧ Bytes bs := by
  have hb : ∀ x ∈ l, 0 ≤ x ∧ x ≤ 255 := by
    intro x hx
    have := h x hx
    simp [Lit.wf, IntKind.min, IntKind.max, IntKind.signed, IntKind.bits] at this
    omega
  unfold spec_l6Open.f
  by_cases h1 : (l.length : Int) > 2000
  · rw [if_pos h1, if_pos (by omega)]
    exact ⟨_, rfl, by rw [List.length_take]; omega, fun x hx => hb x (List.mem_of_mem_take hx)⟩
  · rw [if_neg h1]
    exact ⟨_, rfl, by omega, hb⟩
theorem pick_evp {bs : List Int} (h : Bytes bs) {p n : Int} (h0 : 0 ≤ p) (h1 : p ≤ 1000000000) (hn : n ≤ 1000000000) :
    Evp (fun k => spec_l6Rd_pick.f k bs p n) (fun r => 0 ≤ r.1 ∧ (1 ≤ n → r.1 < n) ∧ r.2 = p + 1) := by
  have hp : wrap64 (p + 1) = p + 1 := w64 (by omega) (by omega)
  have hp1 : wrap64 (p + 1 - 1) = p := by rw [w64 (by omega) (by omega)]; omega
  have key : ∀ b : Bool, (b = false → 1 ≤ n ∧ bs.length ≠ 0) → Evp (fun k => spec_l6Rd_pick.j0 k n b bs (p + 1)) (fun r => 0 ≤ r.1 ∧ (1 ≤ n → r.1 < n) ∧ r.2 = p + 1) := by
    intro b hb
    refine Evp.step (f := fun k => _) (fun k => by rw [spec_l6Rd_pick.j0]) ?_
    rw [hp1]
    cases b with
    | true =>
      refine Evp.yes rfl (Evp.pure _ ⟨by omega, fun h => by show (0 : Int) < n; omega, rfl⟩)
    | false =>
      obtain ⟨hn1, hl⟩ := hb rfl
      have hlen : (bs.length : Int) ≤ 2000 := by have := h.1; omega
      refine Evp.no (by decide) (Evp.ite (fun hlt => ?_) (fun hge => ?_))
      · refine Evp.yes h0 (Evp.no (by omega) (Evp.pure _ ?_))
        have hr := h.rd p
        rw [w64 (by omega) (by omega)]
        have := tmod_lo (b := n) hr.1 (by omega)
        exact ⟨this.1, fun _ => this.2, rfl⟩
      · have hm1 := tmod_lo (a := p) (b := (bs.length : Int)) h0 (by omega)
        have e7 : wrap64 (wrap64 (p * 7) + 3) = p * 7 + 3 := by rw [w64 (n := p * 7) (by omega) (by omega), w64 (by omega) (by omega)]
        have hm2 := tmod_lo (a := p * 7 + 3) (b := (bs.length : Int)) (by omega) (by omega)
        rw [e7]
        refine Evp.no (by omega) (Evp.yes hm1.1 (Evp.yes hm1.2 (Evp.yes hm2.1 (Evp.yes hm2.2 (Evp.no (by omega) (Evp.pure _ ?_))))))
        have r1 := h.rd (Int.tmod p (bs.length : Int))
        have r2 := h.rd (Int.tmod (p * 7 + 3) (bs.length : Int))
        generalize rd bs (Int.tmod p (bs.length : Int)) = a at r1 ⊢
        generalize rd bs (Int.tmod (p * 7 + 3) (bs.length : Int)) = c at r2 ⊢
        have hq : 0 ≤ Int.tdiv p (bs.length : Int) ∧ Int.tdiv p (bs.length : Int) ≤ p := by
          rw [tdiv_pos h0]
          exact ⟨Int.ediv_nonneg h0 (by omega), Int.ediv_le_self _ h0⟩
        generalize Int.tdiv p (bs.length : Int) = q at hq ⊢
        have ea : wrap64 (wrap64 a * 131) = a * 131 := by rw [w64 (n := a) (by omega) (by omega), w64 (by omega) (by omega)]
        have ec : wrap64 (wrap64 c * 1117) = c * 1117 := by rw [w64 (n := c) (by omega) (by omega), w64 (by omega) (by omega)]
        have e29 : wrap64 (p * 29) = p * 29 := w64 (by omega) (by omega)
        have eq5 : wrap64 (wrap64 q * 53) = q * 53 := by rw [w64 (n := q) (by omega) (by omega), w64 (by omega) (by omega)]
        have ex : wrap64 (wrap64 (wrap64 (a * 131 + c * 1117) + p * 29) + q * 53) = a * 131 + c * 1117 + p * 29 + q * 53 := by
          rw [w64 (n := a * 131 + c * 1117) (by omega) (by omega), w64 (n := a * 131 + c * 1117 + p * 29) (by omega) (by omega), w64 (by omega) (by omega)]
        rw [ea, ec, e29, eq5, ex]
        generalize hx : a * 131 + c * 1117 + p * 29 + q * 53 = X
        have hX : 0 ≤ X ∧ X < 4611686018427387904 := by omega
        have hd : 0 ≤ Int.tdiv X 64 ∧ Int.tdiv X 64 ≤ X := by rw [tdiv_pos hX.1]; omega
        rw [w64 (n := Int.tdiv X 64) (by omega) (by omega)]
        have hz := xor_nonneg hX.1 hX.2 hd.1 (by omega)
        have := tmod_lo (b := n) hz.1 (by omega)
        exact ⟨this.1, fun _ => this.2, rfl⟩
  unfold spec_l6Rd_pick.f
  rw [hp]
  refine Evp.ite (fun hn1 => key true (fun h => by cases h)) (fun hn1 => key _ (fun hb => ⟨by omega, ?_⟩))
  intro hl
  rw [hl] at hb
  simp at hb
end Go.Proofs.Ytgmjolngnhdafaa.Kit

end
section
namespace Go.Proofs.Ytgmjolngnhdafaa.Kit
open Go Go.RowKit Go.Proofs.YtgmjolngnhdafaaW.PrintWords Go.Proofs.Ytgmjolngnhdafaa.P
set_option linter.unusedVariables false
abbrev Cls := S38
def sup (cs : List Cls) (i : Nat) : Int := (cs.getD i z38).f0
def flds (cs : List Cls) (i : Nat) : List Int := (cs.getD i z38).f1
def FieldTy (n : Nat) (t : Int) : Prop := t = 1 ∨ t = 3 ∨ t = 4 ∨ (8 ≤ t ∧ t < 8 + (n : Int))
structure ClsOk (cs : List Cls) : Prop where
  lo : 2 ≤ cs.length
  hi : cs.length ≤ 5
  root : sup cs 0 = -1 ∧ flds cs 0 = []
  fail : sup cs 1 = 0 ∧ flds cs 1 = [1]
  up : ∀ i, 2 ≤ i → i < cs.length → 0 ≤ sup cs i ∧ sup cs i < (i : Int) ∧ (flds cs i).length ≤ 2
  fld : ∀ i, i < cs.length → ∀ t ∈ flds cs i, FieldTy cs.length t
/-- a is b, or below it. -/
inductive Up (cs : List Cls) : Nat → Nat → Prop
  | refl (a : Nat) : Up cs a a
  | step {a b : Nat} (p : Nat) (hp : sup cs a = (p : Int)) (h : Up cs p b) : Up cs a b
theorem ClsOk.sup_pos {cs : List Cls} (h : ClsOk cs) {i : Nat} (h1 : 1 ≤ i) (h2 : i < cs.length) : 0 ≤ sup cs i ∧ sup cs i < (i : Int) := by
  rcases Nat.lt_or_ge i 2 with h3 | h3
  · have : i = 1 := by omega
    subst this
    rw [h.fail.1]
    decide
  · have := h.up i h3 h2
    exact ⟨this.1, this.2.1⟩
theorem ClsOk.sup_nat {cs : List Cls} (h : ClsOk cs) {i : Nat} (h1 : 1 ≤ i) (h2 : i < cs.length) : ∃ p : Nat, sup cs i = (p : Int) ∧ p < i := by
  obtain ⟨h3, h4⟩ := h.sup_pos h1 h2
  exact ⟨(sup cs i).toNat, by omega, by omega⟩
theorem ClsOk.len2 {cs : List Cls} (h : ClsOk cs) {i : Nat} (h2 : i < cs.length) : (flds cs i).length ≤ 2 := by
  rcases Nat.lt_or_ge i 2 with h3 | h3
  · rcases Nat.lt_or_ge i 1 with h4 | h4
    · have : i = 0 := by omega
      subst this
      rw [h.root.2]; decide
    · have : i = 1 := by omega
      subst this
      rw [h.fail.2]; decide
  · exact (h.up i h3 h2).2.2
theorem Up.le {cs : List Cls} (h : ClsOk cs) {a b : Nat} (hu : Up cs a b) (ha : a < cs.length) : b ≤ a := by
  induction hu with
  | refl a => exact Nat.le_refl _
  | @step a b p hp _ ih =>
    rcases Nat.eq_zero_or_pos a with h0 | h0
    · subst h0
      have := h.root.1
      omega
    · have := h.sup_pos h0 ha
      have := ih (by omega)
      omega
theorem Up.inv {cs : List Cls} {a b : Nat} (hu : Up cs a b) : a = b ∨ ∃ p : Nat, sup cs a = (p : Int) ∧ Up cs p b := by
  cases hu with
  | refl => exact .inl rfl
  | step p hp h => exact .inr ⟨p, hp, h⟩
theorem Up.trans {cs : List Cls} {a b c : Nat} (h1 : Up cs a b) (h2 : Up cs b c) : Up cs a c := by
  induction h1 with
  | refl => exact h2
  | step p hp _ ih => exact .step p hp (ih h2)
theorem Up.antisymm {cs : List Cls} (h : ClsOk cs) {a b : Nat} (ha : a < cs.length) (hb : b < cs.length) (h1 : Up cs a b) (h2 : Up cs b a) : a = b := by
  have := h1.le h ha
  have := h2.le h hb
  omega
theorem Up.root {cs : List Cls} (h : ClsOk cs) : ∀ {a : Nat}, a < cs.length → Up cs a 0 := by
  intro a
  induction a using Nat.strongRecOn with
  | _ a ih =>
    intro ha
    rcases Nat.eq_zero_or_pos a with h0 | h0
    · subst h0; exact .refl 0
    · obtain ⟨p, hp, hlt⟩ := h.sup_nat h0 ha
      exact .step p hp (ih p hlt (by omega))
/-- Of two above one, one is below the other. -/
theorem Up.line {cs : List Cls} {a b c : Nat} (h1 : Up cs a b) (h2 : Up cs a c) : Up cs b c ∨ Up cs c b := by
  induction h1 with
  | refl => exact .inl h2
  | step p hp hu ih =>
    rcases h2.inv with rfl | ⟨q, hq, hqc⟩
    · exact .inr (.step p hp hu)
    · have : p = q := by omega
      subst this
      exact ih hqc
/-- All fields of a class. -/
inductive Flds (cs : List Cls) : Nat → List Int → Prop
  | root : Flds cs 0 []
  | step {c : Nat} {l : List Int} (p : Nat) (hc : c ≠ 0) (hp : sup cs c = (p : Int)) (h : Flds cs p l) : Flds cs c (l ++ flds cs c)
theorem Flds.fn {cs : List Cls} {c : Nat} {l l' : List Int} (h : Flds cs c l) (h' : Flds cs c l') : l = l' := by
  induction h generalizing l' with
  | root =>
    cases h' with
    | root => rfl
    | step p hc _ _ => exact absurd rfl hc
  | step p hc hp _ ih =>
    cases h' with
    | root => exact absurd rfl hc
    | step q _ hq hl =>
      have : p = q := by omega
      subst this
      rw [ih hl]
theorem Flds.ex {cs : List Cls} (h : ClsOk cs) : ∀ {c : Nat}, c < cs.length → ∃ l, Flds cs c l ∧ l.length ≤ 2 * c := by
  intro c
  induction c using Nat.strongRecOn with
  | _ c ih =>
    intro hc
    rcases Nat.eq_zero_or_pos c with h0 | h0
    · subst h0; exact ⟨[], .root, by simp⟩
    · obtain ⟨p, hp, hlt⟩ := h.sup_nat h0 hc
      obtain ⟨l, hl, hn⟩ := ih p hlt (by omega)
      exact ⟨_, .step p (by omega) hp hl, by have := h.len2 hc; simp; omega⟩
theorem rdCls {cs : List Cls} (i : Nat) : rd_T38 cs (i : Int) = cs.getD i z38 := rfl
theorem rdSup {cs : List Cls} (i : Nat) : (rd_T38 cs (i : Int)).f0 = sup cs i := rfl
theorem rdFlds {cs : List Cls} (i : Nat) : (rd_T38 cs (i : Int)).f1 = flds cs i := rfl
theorem rdInt {xs : List Int} {i : Nat} (h : i < xs.length) : rd xs (i : Int) = xs[i] := getD_at h _
/-- Classes, each with not too many fields. -/
def SmallC (cs : List Cls) : Prop := cs.length ≤ 1048576 ∧ ∀ i, i < cs.length → (flds cs i).length ≤ 1048576 ∧ (∀ t ∈ flds cs i, -9223372036854775808 ≤ t ∧ t ≤ 9223372036854775807)
/-- Two answers, each told by the same. -/
theorem same_of {p : Prop} {a b : Bool} (ha : a = true ↔ p) (hb : b = true ↔ p) : a = b := by
  rw [Bool.eq_iff_iff, ha, hb]
theorem bne_no {a b : Bool} {p : Prop} (ha : a = true ↔ p) (hb : b = true ↔ p) : ¬ ((b != a) = true) := by
  rw [same_of hb ha]; simp
end Go.Proofs.Ytgmjolngnhdafaa.Kit

end
section
namespace Go.Proofs.Ytgmjolngnhdafaa.Kit
open Go Go.RowKit Go.Proofs.YtgmjolngnhdafaaW.PrintWords Go.Proofs.Ytgmjolngnhdafaa.P
set_option linter.unusedVariables false
def Few (l : List Int) : Prop := ∀ t ∈ l, -1000 ≤ t ∧ t ≤ 1000
theorem Few.nil : Few [] := by intro t ht; cases ht
theorem Few.snoc {l : List Int} {t : Int} (h : Few l) (h0 : -1000 ≤ t) (h1 : t ≤ 1000) : Few (l ++ [t]) := by
  intro x hx
  rcases List.mem_append.1 hx with hx | hx
  · exact h x hx
  · rw [List.mem_singleton.1 hx]; exact ⟨h0, h1⟩
def OkC (c : Nat) (x : Cls) : Prop := x.f1.length ≤ c ∧ Few x.f1
/-- Drawn classes: from 1 to m of them. -/
def Drawn (c m : Nat) (cs : List Cls) : Prop := 1 ≤ cs.length ∧ cs.length ≤ m ∧ ∀ x ∈ cs, OkC c x
theorem Drawn.mono {c c' m m' : Nat} {cs : List Cls} (h : Drawn c m cs) (hc : c ≤ c') (hm : m ≤ m') : Drawn c' m' cs := ⟨h.1, Nat.le_trans h.2.1 hm, fun x hx => ⟨Nat.le_trans (h.2.2 x hx).1 hc, (h.2.2 x hx).2⟩⟩
theorem Drawn.at {c m : Nat} {cs : List Cls} (h : Drawn c m cs) (i : Nat) : OkC c (cs.getD i z38) := by
  rw [List.getD_eq_getElem?_getD]
  by_cases hi : i < cs.length
  · rw [List.getElem?_eq_getElem hi]; exact h.2.2 _ (List.getElem_mem hi)
  · rw [List.getElem?_eq_none (by omega)]; exact ⟨Nat.zero_le _, Few.nil⟩
theorem Drawn.small {c m : Nat} {cs : List Cls} (h : Drawn c m cs) (hc : c ≤ 1048576) (hm : m ≤ 1048576) : SmallC cs := by
  refine ⟨Nat.le_trans h.2.1 hm, fun i hi => ?_⟩
  have := h.at i
  exact ⟨Nat.le_trans this.1 hc, fun t ht => by have := this.2 t ht; omega⟩
theorem Drawn.set {c m : Nat} {cs : List Cls} (h : Drawn c m cs) (i : Nat) {x : Cls} (hx : OkC c x) : Drawn c m (cs.set i x) := by
  refine ⟨by rw [List.length_set]; exact h.1, by rw [List.length_set]; exact h.2.1, fun y hy => ?_⟩
  rcases List.mem_or_eq_of_mem_set hy with h1 | h1
  · exact h.2.2 y h1
  · rw [h1]; exact hx
theorem Drawn.snoc {c m : Nat} {cs : List Cls} (h : Drawn c m cs) {x : Cls} (hx : OkC c x) : Drawn c (m + 1) (cs ++ [x]) := by
  refine ⟨by simp, by rw [List.length_append]; have := h.2.1; simp; omega, fun y hy => ?_⟩
  rcases List.mem_append.1 hy with h1 | h1
  · exact h.2.2 y h1
  · rw [List.mem_singleton.1 h1]; exact hx
theorem field_evp {bs : List Int} (h : Bytes bs) {p n : Int} (h0 : 0 ≤ p) (h1 : p ≤ 100000000) (hn : 1 ≤ n) (hn2 : n ≤ 100) :
    Evp (fun k => spec_l71Field.f k bs p n) (fun r => 1 ≤ r.1 ∧ r.1 < 8 + n ∧ p ≤ r.2 ∧ r.2 ≤ p + 2) := by
  unfold spec_l71Field.f
  refine Evp.bind (pick_evp h h0 (by omega) (by omega)) fun a ha => ?_
  have key : ∀ b : Bool, Evp (fun k => spec_l71Field.j0 k n a.1 b bs a.2) (fun r => 1 ≤ r.1 ∧ r.1 < 8 + n ∧ p ≤ r.2 ∧ r.2 ≤ p + 2) := by
    intro b
    refine Evp.step (f := fun k => _) (fun k => by rw [spec_l71Field.j0]) ?_
    refine Evp.ite (fun _ => Evp.pure _ (by dsimp only; omega)) (fun _ => Evp.ite (fun _ => Evp.pure _ (by dsimp only; omega)) (fun _ => Evp.ite (fun _ => Evp.pure _ (by dsimp only; omega)) (fun _ => ?_)))
    refine Evp.bind (pick_evp h (by omega) (by omega) (by omega)) fun c hc => Evp.pure _ ?_
    have := hc.2.1 hn
    dsimp only
    rw [w64 (by omega) (by omega)]
    omega
  exact Evp.ite (fun _ => key _) (fun _ => key _)
theorem classes_evp {bs : List Int} (h : Bytes bs) {p : Int} (h0 : 0 ≤ p) (h1 : p ≤ 10000000) :
    Evp (fun k => spec_l71Classes.f k bs p) (fun r => Drawn 3 5 r.1 ∧ 2 ≤ r.1.length ∧ p ≤ r.2 ∧ r.2 ≤ p + 100) := by
  unfold spec_l71Classes.f
  refine Evp.bind (pick_evp h h0 (by omega) (by omega)) fun a ha => ?_
  have ha2 := ha.2.1 (by omega)
  obtain ⟨n, hn⟩ : ∃ n : Nat, wrap64 (2 + a.1) = (n : Int) := ⟨(2 + a.1).toNat, by rw [w64 (by omega) (by omega)]; omega⟩
  rw [w64 (by omega) (by omega)] at hn
  rw [w64 (by omega) (by omega), hn]
  have k0 : ∀ d i : Nat, i + d = n → ∀ (cs : List Cls) (q : Int), Drawn 3 i cs → cs.length = i → 2 ≤ i → 0 ≤ q → q + 6 * (d : Int) ≤ 20000000 → Evp (fun k => spec_l71Classes.l0 k (n : Int) cs (i : Int) bs q) (fun r => Drawn 3 5 r.1 ∧ 2 ≤ r.1.length ∧ q ≤ r.2 ∧ r.2 ≤ q + 6 * d) := by
    intro d
    induction d with
    | zero =>
      intro i hi cs q hd hl h2 hq0 hq1
      refine Evp.step (f := fun k => _) (fun k => by rw [spec_l71Classes.l0]) (Evp.no (by omega) (Evp.pure _ ?_))
      exact ⟨hd.mono (by decide) (by omega), by dsimp only; omega, by dsimp only; omega, by dsimp only; omega⟩
    | succ d ih =>
      intro i hi cs q hd hl h2 hq0 hq1
      refine Evp.step (f := fun k => _) (fun k => by rw [spec_l71Classes.l0]) (Evp.yes (by omega) ?_)
      refine Evp.bind (pick_evp h hq0 (by omega) (by omega)) fun b hb => Evp.bind (pick_evp h (by omega) (by omega) (by omega)) fun c hc => ?_
      have hc2 := hc.2.1 (by omega)
      have k1 : ∀ j : Nat, ∀ (s : List Int) (q' : Int), s.length + j ≤ 2 → Few s → 0 ≤ q' → q' + 2 * (j : Int) + 6 * (d : Int) ≤ 20000000 → Evp (fun k => spec_l71Classes.l1 k (n : Int) cs (i : Int) (j : Int) bs q' b.1 s) (fun r => Drawn 3 5 r.1 ∧ 2 ≤ r.1.length ∧ q' ≤ r.2 ∧ r.2 ≤ q' + 2 * j + 6 * d) := by
        intro j
        induction j with
        | zero =>
          intro s q' hs hf hq0' hq1'
          refine Evp.step (f := fun k => _) (fun k => by rw [spec_l71Classes.l1]) (Evp.no (by omega) (Evp.yes (by omega) ?_))
          rw [w64' (n := n) (by omega) (by omega)]
          refine (ih (i + 1) (by omega) (cs ++ [⟨b.1, s⟩]) q' (hd.snoc ⟨by dsimp only; omega, hf⟩) (by simp; omega) (by omega) hq0' (by omega)).mono fun r hr => ?_
          exact ⟨hr.1, hr.2.1, hr.2.2.1, by omega⟩
        | succ j ihj =>
          intro s q' hs hf hq0' hq1'
          refine Evp.step (f := fun k => _) (fun k => by rw [spec_l71Classes.l1]) (Evp.yes (by omega) ?_)
          refine Evp.bind (field_evp h hq0' (by omega) (n := (n : Int)) (by omega) (by omega)) fun e he => Evp.yes (by omega) ?_
          rw [show wrap64 (((j + 1 : Nat) : Int) - 1) = (j : Int) by rw [w64 (by omega) (by omega)]; omega]
          refine (ihj (s ++ [e.1]) e.2 (by simp; omega) (hf.snoc (by omega) (by omega)) (by omega) (by omega)).mono fun r hr => ?_
          exact ⟨hr.1, hr.2.1, by omega, by omega⟩
      obtain ⟨j, hj⟩ : ∃ j : Nat, c.1 = (j : Int) := ⟨c.1.toNat, by omega⟩
      rw [hj]
      refine (k1 j [] c.2 (by simp; omega) Few.nil (by omega) (by omega)).mono fun r hr => ?_
      exact ⟨hr.1, hr.2.1, by omega, by omega⟩
  have hok : Drawn 3 2 ([(⟨-1, []⟩ : Cls), ⟨0, [1]⟩]) := by
    refine ⟨by decide, by decide, fun x hx => ?_⟩
    rcases List.mem_cons.1 hx with rfl | hx
    · exact ⟨Nat.zero_le _, Few.nil⟩
    · rw [List.mem_singleton.1 hx]
      exact ⟨by decide, Few.nil.snoc (by decide) (by decide)⟩
  refine Evp.mono (k0 (n - 2) 2 (by omega) _ a.2 hok rfl (by omega) (by omega) (by omega)) fun r hr => ?_
  exact ⟨hr.1, hr.2.1, by omega, by omega⟩
theorem off_evp {bs : List Int} (h : Bytes bs) {p : Int} (h0 : 0 ≤ p) (h1 : p ≤ 1000000) :
    Evp (fun k => spec_l71Off.f k bs p) (fun r => Drawn 4 9 r.1 ∧ p ≤ r.2 ∧ r.2 ≤ p + 110) := by
  unfold spec_l71Off.f
  refine Evp.bind (classes_evp h h0 (by omega)) fun a ha => Evp.bind (pick_evp h (by omega) (by omega) (by omega)) fun b hb => ?_
  have hd : Drawn 4 9 a.1 := ha.1.mono (by decide) (by decide)
  have hl := ha.2.1
  have hl5 := ha.1.2.1
  refine Evp.ite (fun _ => Evp.pure _ ⟨hd, by dsimp only; omega, by dsimp only; omega⟩) (fun _ => ?_)
  refine Evp.bind (pick_evp h (by omega) (by omega) (by omega)) fun c hc => Evp.bind (pick_evp h (by omega) (by omega) (by omega)) fun d hd' => ?_
  have hc2 := hc.2.1 (by omega)
  have at_ : ∀ i : Int, OkC 4 (rd_T38 a.1 i) := fun i => hd.at _
  refine Evp.ite (fun _ => ?_) (fun _ => Evp.ite (fun _ => ?_) (fun _ => Evp.ite (fun _ => ?_) (fun _ => Evp.ite (fun _ => ?_) (fun _ => Evp.ite (fun _ => ?_) (fun _ => ?_)))))
  · refine Evp.bind (pick_evp h (by omega) (by omega) (by omega)) fun e he => Evp.yes hc.1 (Evp.yes (by omega) (Evp.pure _ ⟨hd.set _ (at_ _), by dsimp only; omega, by dsimp only; omega⟩))
  · refine Evp.yes hc.1 (Evp.yes (by omega) ?_)
    simp only [Option.bind_some]
    refine Evp.bind (pick_evp h (by omega) (by omega) (by omega)) fun e he => ?_
    have he2 := he.2.1 (by omega)
    have hx : OkC 3 (rd_T38 a.1 c.1) := ha.1.at _
    refine Evp.yes he.1 (Evp.yes (by simp; omega) (Evp.yes (by have := hx.1; omega) (Evp.pure _ ⟨hd.set _ ⟨?_, ?_⟩, by dsimp only; omega, by dsimp only; omega⟩)))
    · have := hx.1
      simp
      omega
    · have key : ∀ e : Int, 0 ≤ e → e < 4 → -1000 ≤ rd [0, 2, 13, 5] e ∧ rd [0, 2, 13, 5] e ≤ 1000 := by
        intro e h0 h1
        have : e = 0 ∨ e = 1 ∨ e = 2 ∨ e = 3 := by omega
        rcases this with rfl | rfl | rfl | rfl <;> exact ⟨by decide, by decide⟩
      exact hx.2.snoc (key e.1 he.1 he2).1 (key e.1 he.1 he2).2
  · exact Evp.yes (by omega) (Evp.pure _ ⟨⟨by simp; omega, by simp; omega, fun x hx => hd.2.2 x (List.mem_of_mem_take hx)⟩, by dsimp only; omega, by dsimp only; omega⟩)
  · refine Evp.yes (by omega) ?_
    simp only [Option.bind_some]
    refine Evp.yes (by simp; omega) (Evp.pure _ ⟨⟨by simp, by simp; omega, fun x hx => ?_⟩, by dsimp only; omega, by dsimp only; omega⟩)
    rcases List.mem_append.1 hx with hx | hx
    · exact hd.2.2 x hx
    · have : x = rd_T38 a.1 1 := by
        simp only [List.mem_cons, List.not_mem_nil, or_false, or_self] at hx
        exact hx
      rw [this]; exact at_ 1
  · refine Evp.yes hc.1 (Evp.yes (by omega) (Evp.pure _ ⟨hd.set _ ⟨(by dsimp only; decide), ?_⟩, by dsimp only; omega, by dsimp only; omega⟩))
    intro t ht
    simp at ht
    omega
  · exact Evp.yes hc.1 (Evp.yes (by omega) (Evp.pure _ ⟨hd.set _ ⟨Nat.zero_le _, Few.nil⟩, by dsimp only; omega, by dsimp only; omega⟩))
end Go.Proofs.Ytgmjolngnhdafaa.Kit

end
section
namespace Go.Proofs.Ytgmjolngnhdafaa.Kit
open Go Go.RowKit Go.Proofs.YtgmjolngnhdafaaW.PrintWords Go.Proofs.Ytgmjolngnhdafaa.P
set_option linter.unusedVariables false
theorem in_eq (a lo hi : Int) : spec_l6In.f a lo hi = some (decide (lo ≤ a ∧ a ≤ hi)) := by
  unfold spec_l6In.f
  by_cases h : lo ≤ a <;> simp [h]
theorem kindOf_eq {n : Nat} {t : Int} (hn : n ≤ 1000000000) (h0 : -9223372036854775808 ≤ t) (h1 : t ≤ 9223372036854775807) :
    impl_kindOf.f (n : Int) t = some (if (0 ≤ t ∧ t ≤ 4) ∨ (8 ≤ t ∧ t < 8 + (n : Int)) then t else -1) := by
  unfold impl_kindOf.f
  rw [if_pos ⟨by omega, by omega, h0, h1⟩]
  repeat' split
  all_goals first | omega | (congr 1; omega) | rfl
theorem fieldType_eq {n : Nat} {t : Int} (hn : n ≤ 1000000000) (h0 : -9223372036854775808 ≤ t) (h1 : t ≤ 9223372036854775807) :
    ∃ b, impl_fieldType.f (n : Int) t = some b ∧ (b = true ↔ FieldTy n t) := by
  unfold impl_fieldType.f
  rw [kindOf_eq hn h0 h1, Option.bind_some]
  refine ⟨_, rfl, ?_⟩
  rw [decide_eq_true_iff]
  unfold FieldTy
  split <;> omega
theorem field_eq {cs : List Cls} {t : Int} (hn : cs.length ≤ 1000000000) : ∃ b, spec_l2Field.f cs t = some b ∧ (b = true ↔ FieldTy cs.length t) := by
  unfold spec_l2Field.f FieldTy
  rw [in_eq, w64 (n := 8 + (cs.length : Int)) (by omega) (by omega), w64 (by omega) (by omega)]
  by_cases h1 : t = 1
  · exact ⟨true, by rw [if_pos h1], by simp [h1]⟩
  rw [if_neg h1]
  by_cases h2 : t = 3
  · exact ⟨true, by rw [if_pos h2], by simp [h2]⟩
  rw [if_neg h2]
  by_cases h3 : t = 4
  · exact ⟨true, by rw [if_pos h3], by simp [h3]⟩
  rw [if_neg h3]
  refine ⟨_, rfl, ?_⟩
  simp only [h1, h2, h3, false_or, decide_eq_true_iff]
  omega
theorem impl_isClass_eq (cs : List Cls) (a : Int) : ∃ b, impl_isClass.f cs a = some b ∧ (b = true ↔ 0 ≤ a ∧ a < (cs.length : Int)) := by
  unfold impl_isClass.f
  by_cases h : a ≥ 0
  · rw [if_pos h]; exact ⟨_, rfl, by rw [decide_eq_true_iff]; omega⟩
  · rw [if_neg h]; exact ⟨_, rfl, by simp; omega⟩
/-- What the reference asks of one class. -/
def Shp (cs : List Cls) (c : Nat) : Prop := (if c = 0 then sup cs 0 = -1 ∧ (flds cs 0).length = 0 else if c = 1 then sup cs 1 = 0 ∧ flds cs 1 = [1] else 0 ≤ sup cs c ∧ sup cs c < (c : Int) ∧ (flds cs c).length ≤ 2)
theorem shp0 {cs : List Cls} : Shp cs 0 ↔ sup cs 0 = -1 ∧ (flds cs 0).length = 0 := by unfold Shp; rw [if_pos rfl]
theorem shp1 {cs : List Cls} : Shp cs 1 ↔ sup cs 1 = 0 ∧ flds cs 1 = [1] := by unfold Shp; rw [if_neg (by decide), if_pos rfl]
theorem shp2 {cs : List Cls} {c : Nat} (h : 2 ≤ c) : Shp cs c ↔ 0 ≤ sup cs c ∧ sup cs c < (c : Int) ∧ (flds cs c).length ≤ 2 := by unfold Shp; rw [if_neg (by omega), if_neg (by omega)]
def At (cs : List Cls) (c : Nat) : Prop := (∀ t ∈ flds cs c, FieldTy cs.length t) ∧ Shp cs c
theorem clsOk_iff {cs : List Cls} : ClsOk cs ↔ 2 ≤ cs.length ∧ cs.length ≤ 5 ∧ ∀ c, c < cs.length → At cs c := by
  constructor
  · intro h
    refine ⟨h.lo, h.hi, fun c hc => ⟨h.fld c hc, ?_⟩⟩
    rcases Nat.lt_or_ge c 2 with h2 | h2
    · rcases Nat.lt_or_ge c 1 with h1 | h1
      · have : c = 0 := by omega
        subst this
        exact shp0.2 ⟨h.root.1, by rw [h.root.2]; rfl⟩
      · have : c = 1 := by omega
        subst this
        exact shp1.2 h.fail
    · exact (shp2 h2).2 (h.up c h2 hc)
  · intro ⟨h1, h2, h3⟩
    have a0 := shp0.1 (h3 0 (by omega)).2
    have a1 := shp1.1 (h3 1 (by omega)).2
    exact ⟨h1, h2, ⟨a0.1, List.eq_nil_of_length_eq_zero a0.2⟩, a1, fun i hi hl => (shp2 hi).1 (h3 i hl).2, fun i hi => (h3 i hi).1⟩
theorem spec_class {cs : List Cls} (hs : SmallC cs) {c : Nat} (hc : c < cs.length) : Evp (fun k => spec_l2Class.f k cs (c : Int)) (fun r => r = true ↔ At cs c) := by
  unfold spec_l2Class.f
  refine Evp.yes (by omega) (Evp.yes (by omega) ?_)
  rw [rdSup, rdFlds]
  have hl := (hs.2 c hc).1
  have hl0 := hs.1
  have key : ∀ i, i ≤ (flds cs c).length → Evp (fun k => spec_l2Class.l0 k cs (c : Int) (i : Int) (sup cs c) (flds cs c)) (fun r => r = true ↔ (∀ t ∈ (flds cs c).drop i, FieldTy cs.length t) ∧ Shp cs c) := by
    refine Evp.for_ ?_ (fun i hi ih => ?_)
    · refine Evp.step (f := fun k => _) (fun k => by rw [spec_l2Class.l0, in_eq]) (Evp.no (by omega) ?_)
      rw [List.drop_length]
      simp only [List.not_mem_nil, false_implies, implies_true, true_and]
      refine Evp.ite (fun h0 => ?_) (fun h0 => ?_)
      · have : c = 0 := by omega
        subst this
        rw [shp0]
        refine Evp.ite (fun h => Evp.pure _ ?_) (fun h => Evp.pure _ (by simp [h]))
        rw [beq_iff_eq]
        constructor
        · intro h2; exact ⟨h, by omega⟩
        · intro h2; omega
      · refine Evp.ite (fun h1 => ?_) (fun h1 => ?_)
        · have : c = 1 := by omega
          subst this
          rw [shp1]
          refine Evp.ite (fun h => ?_) (fun h => Evp.pure _ (by simp [h]))
          refine Evp.ite (fun h2 => ?_) (fun h2 => Evp.pure _ ?_)
          · refine Evp.yes (by omega) (Evp.pure _ ?_)
            obtain ⟨x, hx⟩ := List.length_eq_one_iff.1 (by omega : (flds cs 1).length = 1)
            rw [hx, show rd [x] 0 = x from rfl, beq_iff_eq]
            simp [h]
          · constructor
            · intro h3; cases h3
            · intro h3; rw [h3.2] at h2; exact absurd rfl h2
        · rw [shp2 (by omega)]
          refine Evp.congr (f := fun k => if 0 ≤ sup cs c ∧ sup cs c ≤ (c : Int) - 1 then some (decide (((flds cs c).length : Int) ≤ 2)) else some false) (fun k => by rw [w64 (n := (c : Int) - 1) (by omega) (by omega), Option.bind_some]; simp only [decide_eq_true_iff]) ?_
          refine Evp.ite (fun h => Evp.pure _ ?_) (fun h => Evp.pure _ ?_)
          · simp only [decide_eq_true_iff]
            omega
          · constructor
            · intro h3; cases h3
            · intro h3; omega
    · obtain ⟨b, hb, hb2⟩ := field_eq (cs := cs) (t := (flds cs c)[i]) (by omega)
      refine Evp.step (f := fun k => _) (fun k => by rw [spec_l2Class.l0, rdInt hi, hb, Option.bind_some]) (Evp.yes (by omega) (Evp.yes (by omega) ?_))
      rw [w64' hi (by omega), drop_at hi]
      refine Evp.ite (fun h => ih.mono fun r hr => ?_) (fun h => Evp.pure _ ?_)
      · rw [hr, List.forall_mem_cons]
        exact ⟨fun h2 => ⟨⟨hb2.1 h, h2.1⟩, h2.2⟩, fun h2 => ⟨h2.1.2, h2.2⟩⟩
      · rw [List.forall_mem_cons]
        exact ⟨fun h2 => (by cases h2), fun h2 => absurd (hb2.2 h2.1.1) h⟩
  exact key 0 (Nat.zero_le _)
theorem spec_classesOk {cs : List Cls} (hs : SmallC cs) : Evp (fun k => spec_ClassesOk.f k cs) (fun r => r = true ↔ ClsOk cs) := by
  have hl0 := hs.1
  unfold spec_ClassesOk.f
  rw [in_eq]
  simp only [Option.bind_some]
  refine Evp.ite (fun h => ?_) (fun h => Evp.pure _ ?_)
  · simp only [decide_eq_true_iff] at h
    have key : ∀ i, i ≤ cs.length → Evp (fun k => spec_ClassesOk.l0 k cs (i : Int)) (fun r => r = true ↔ ∀ c, i ≤ c → c < cs.length → At cs c) := by
      refine Evp.for_ ?_ (fun i hi ih => ?_)
      · refine Evp.step (f := fun k => _) (fun k => by rw [spec_ClassesOk.l0]) (Evp.no (by omega) (Evp.pure _ ?_))
        simp only [true_iff]
        intro c h1 h2; omega
      · refine Evp.step (f := fun k => _) (fun k => by rw [spec_ClassesOk.l0]) (Evp.yes (by omega) ?_)
        refine Evp.bind (spec_class hs hi) fun b hb => ?_
        rw [w64' hi (by omega)]
        refine Evp.ite (fun h1 => ih.mono fun r hr => ?_) (fun h1 => Evp.pure _ ?_)
        · rw [hr]
          constructor
          · intro h2 c h3 h4
            rcases Nat.lt_or_ge i c with h5 | h5
            · exact h2 c h5 h4
            · have : c = i := by omega
              subst this
              exact hb.1 h1
          · intro h2 c h3 h4; exact h2 c (by omega) h4
        · constructor
          · intro h2; cases h2
          · intro h2; exact absurd (hb.2 (h2 i (Nat.le_refl _) hi)) h1
    refine (key 0 (Nat.zero_le _)).mono fun r hr => ?_
    rw [hr, clsOk_iff]
    constructor
    · intro h2; exact ⟨by omega, by omega, fun c hc => h2 c (Nat.zero_le _) hc⟩
    · intro h2 c _ hc; exact h2.2.2 c hc
  · simp only [decide_eq_true_iff] at h
    constructor
    · intro h2; cases h2
    · intro h2; have := h2.lo; have := h2.hi; omega
theorem impl_classesOk {cs : List Cls} (hs : SmallC cs) : Evp (fun k => impl_ClassesOk.f k cs) (fun r => r = true ↔ ClsOk cs) := by
  have hl0 := hs.1
  have no : ∀ {p : Prop}, ¬ p → ((false = true) ↔ p) := fun h => ⟨fun h2 => (by cases h2), fun h2 => absurd h2 h⟩
  have jno : ¬ (2 ≤ cs.length ∧ cs.length ≤ 5) → Evp (fun k => impl_ClassesOk.j0 k cs true) (fun r => r = true ↔ ClsOk cs) := fun h =>
    Evp.step (f := fun k => _) (fun k => by rw [impl_ClassesOk.j0]) (Evp.yes rfl (Evp.pure _ (no fun h2 => h ⟨h2.lo, h2.hi⟩)))
  unfold impl_ClassesOk.f
  refine Evp.ite (fun h => jno (by omega)) (fun h => ?_)
  by_cases h5 : ¬ cs.length ≤ 5
  · rw [decide_eq_true (by omega)]; exact jno (by omega)
  rw [decide_eq_false (by omega)]
  have h2 : 2 ≤ cs.length := by omega
  -- the loop over all classes
  have loop : (sup cs 0 = -1 ∧ flds cs 0 = []) → (sup cs 1 = 0 ∧ flds cs 1 = [1]) → ∀ i, i ≤ cs.length → Evp (fun k => impl_ClassesOk.l0 k cs cs (cs.length : Int) (i : Int)) (fun r => r = true ↔ ∀ c, i ≤ c → c < cs.length → At cs c) := by
    intro hr hf
    refine Evp.for_ ?_ (fun i hi ih => ?_)
    · refine Evp.step (f := fun k => _) (fun k => by rw [impl_ClassesOk.l0]) (Evp.no (by omega) (Evp.pure _ ?_))
      simp only [true_iff]
      intro c h1 h2; omega
    · have ih2 : At cs i → ∀ r : Bool, (r = true ↔ ∀ c, i + 1 ≤ c → c < cs.length → At cs c) → (r = true ↔ ∀ c, i ≤ c → c < cs.length → At cs c) := by
        intro ha r hr
        rw [hr]
        constructor
        · intro h2 c h3 h4
          rcases Nat.lt_or_ge i c with h5 | h5
          · exact h2 c h5 h4
          · have : c = i := by omega
            subst this
            exact ha
        · intro h2 c h3 h4; exact h2 c (by omega) h4
      have hno : ¬ At cs i → ((false = true) ↔ ∀ c, i ≤ c → c < cs.length → At cs c) := fun h => no fun h2 => h (h2 i (Nat.le_refl _) hi)
      have hl := (hs.2 i hi).1
      have hb := (hs.2 i hi).2
      -- the loop over a class's fields
      have fl : Shp cs i →
          ∀ j, j ≤ (flds cs i).length → (∀ t ∈ (flds cs i).take j, FieldTy cs.length t) → Evp (fun k => impl_ClassesOk.l1 k cs cs (cs.length : Int) (i : Int) (flds cs i) ((flds cs i).length : Int) (j : Int)) (fun r => r = true ↔ ∀ c, i ≤ c → c < cs.length → At cs c) := by
        intro hc
        have key : ∀ j, j ≤ (flds cs i).length → ∀ _ : Unit, (∀ t ∈ (flds cs i).take j, FieldTy cs.length t) → Evp (fun k => impl_ClassesOk.l1 k cs cs (cs.length : Int) (i : Int) (flds cs i) ((flds cs i).length : Int) (j : Int)) (fun r => r = true ↔ ∀ c, i ≤ c → c < cs.length → At cs c) := by
          refine Evp.fors (g := fun j (_ : Unit) k => impl_ClassesOk.l1 k cs cs (cs.length : Int) (i : Int) (flds cs i) ((flds cs i).length : Int) (j : Int)) (I := fun j _ => ∀ t ∈ (flds cs i).take j, FieldTy cs.length t) (R := fun _ _ r => r = true ↔ ∀ c, i ≤ c → c < cs.length → At cs c) (fun _ hI => ?_) (fun j hj ihj _ hI => ?_)
          · refine Evp.step (f := fun k => _) (fun k => by rw [impl_ClassesOk.l1]) (Evp.no (by omega) ?_)
            rw [w64' hi (by omega)]
            refine ih.mono (ih2 ⟨?_, hc⟩)
            simpa using hI
          · obtain ⟨b, hb1, hb2⟩ := fieldType_eq (n := cs.length) (t := (flds cs i)[j]) (by omega) (hb _ (List.getElem_mem hj)).1 (hb _ (List.getElem_mem hj)).2
            refine Evp.step (f := fun k => _) (fun k => by rw [impl_ClassesOk.l1, rdInt hj, hb1, Option.bind_some]) (Evp.yes (by omega) (Evp.yes (by omega) (Evp.yes (by omega) ?_)))
            rw [w64' hj (by omega)]
            refine Evp.ite (fun h => ihj () ?_) (fun h => Evp.pure _ (hno ?_))
            · rw [List.take_succ_eq_append_getElem hj]
              intro t ht
              rcases List.mem_append.1 ht with ht | ht
              · exact hI t ht
              · rw [List.mem_singleton.1 ht]; exact hb2.1 h
            · intro ha; exact h (hb2.2 (ha.1 _ (List.getElem_mem hj)))
        exact fun j hj => key j hj ()
      have j4 : ∀ b : Bool, (b = true ↔ 2 ≤ i ∧ ¬ (0 ≤ sup cs i ∧ sup cs i < (i : Int))) → Evp (fun k => impl_ClassesOk.j4 k cs cs (cs.length : Int) (i : Int) b (sup cs i) (flds cs i)) (fun r => r = true ↔ ∀ c, i ≤ c → c < cs.length → At cs c) := by
        intro b hb4
        refine Evp.step (f := fun k => _) (fun k => by rw [impl_ClassesOk.j4]) ?_
        refine Evp.ite (fun h => Evp.pure _ (hno ?_)) (fun h => ?_)
        · intro ha
          have h6 := hb4.1 h
          have := (shp2 h6.1).1 ha.2
          omega
        · have h6 : ¬ (2 ≤ i ∧ ¬ (0 ≤ sup cs i ∧ sup cs i < (i : Int))) := fun h7 => h (hb4.2 h7)
          refine Evp.ite (fun h7 => Evp.pure _ (hno ?_)) (fun h7 => fl ?_ 0 (Nat.zero_le _) (by simp))
          · intro ha
            rcases Nat.lt_or_ge i 2 with h8 | h8
            · rcases Nat.lt_or_ge i 1 with h9 | h9
              · have : i = 0 := by omega
                subst this
                have := (shp0.1 ha.2).2
                omega
              · have : i = 1 := by omega
                subst this
                rw [hf.2] at h7; exact absurd h7 (by decide)
            · have := (shp2 h8).1 ha.2
              omega
          · rcases Nat.lt_or_ge i 2 with h8 | h8
            · rcases Nat.lt_or_ge i 1 with h9 | h9
              · have : i = 0 := by omega
                subst this
                exact shp0.2 ⟨hr.1, by rw [hr.2]; rfl⟩
              · have : i = 1 := by omega
                subst this
                exact shp1.2 hf
            · exact (shp2 h8).2 (by omega)
      refine Evp.step (f := fun k => _) (fun k => by rw [impl_ClassesOk.l0, rdSup, rdFlds]) (Evp.yes (by omega) (Evp.yes (by omega) (Evp.yes (by omega) ?_)))
      refine Evp.ite (fun h => Evp.ite (fun h8 => j4 _ ?_) (fun h8 => j4 _ ?_)) (fun h => j4 _ ?_)
      · simp; omega
      · rw [decide_eq_true_iff]; omega
      · simp; omega
  have done : (sup cs 0 = -1 ∧ flds cs 0 = []) → (sup cs 1 = 0 ∧ flds cs 1 = [1]) → Evp (fun k => impl_ClassesOk.l0 k cs cs (cs.length : Int) 0) (fun r => r = true ↔ ClsOk cs) := by
    intro hr hf
    refine (loop hr hf 0 (Nat.zero_le _)).mono fun r hr2 => ?_
    rw [hr2, clsOk_iff]
    constructor
    · intro h3; exact ⟨by omega, by omega, fun c hc => h3 c (Nat.zero_le _) hc⟩
    · intro h3 c _ hc; exact h3.2.2 c hc
  have j2 : (sup cs 0 = -1 ∧ flds cs 0 = []) → ∀ b : Bool, (b = false ↔ (sup cs 1 = 0 ∧ flds cs 1 = [1])) → Evp (fun k => impl_ClassesOk.j2 k cs b) (fun r => r = true ↔ ClsOk cs) := by
    intro hr b hb
    refine Evp.step (f := fun k => _) (fun k => by rw [impl_ClassesOk.j2]) ?_
    refine Evp.ite (fun h => Evp.pure _ (no fun h3 => ?_)) (fun h => done hr (hb.1 (by simpa using h)))
    have := hb.2 h3.fail
    rw [h] at this; cases this
  have j1 : ∀ b : Bool, (b = false ↔ (sup cs 0 = -1 ∧ flds cs 0 = [])) → Evp (fun k => impl_ClassesOk.j1 k cs b) (fun r => r = true ↔ ClsOk cs) := by
    intro b hb
    refine Evp.step (f := fun k => _) (fun k => by rw [impl_ClassesOk.j1, show (1 : Int) = ((1 : Nat) : Int) from rfl, rdSup, rdFlds]) ?_
    refine Evp.ite (fun h => Evp.pure _ (no fun h3 => ?_)) (fun h => ?_)
    · have := hb.2 h3.root
      rw [h] at this; cases this
    · have hr := hb.1 (by simpa using h)
      refine Evp.yes (by omega) (Evp.ite (fun h1 => Evp.ite (fun h3 => Evp.yes (by omega) (j2 hr _ ?_)) (fun h3 => j2 hr _ ?_)) (fun h1 => j2 hr _ ?_))
      · obtain ⟨x, hx⟩ := List.length_eq_one_iff.1 (by omega : (flds cs 1).length = 1)
        rw [hx, show rd [x] 0 = x from rfl]
        simp [h1]
      · constructor
        · intro h4; cases h4
        · intro h4; rw [h4.2] at h3; exact absurd rfl h3
      · constructor
        · intro h4; cases h4
        · intro h4; exact absurd h4.1 h1
  refine Evp.step (f := fun k => _) (fun k => by rw [impl_ClassesOk.j0, show (0 : Int) = ((0 : Nat) : Int) from rfl, rdSup, rdFlds]) (Evp.no (by decide) (Evp.yes (by omega) ?_))
  refine Evp.ite (fun h1 => j1 _ ?_) (fun h1 => j1 _ ?_)
  · constructor
    · intro h3
      have : (flds cs 0).length = 0 := by simpa using h3
      exact ⟨h1, List.eq_nil_of_length_eq_zero this⟩
    · intro h3; rw [h3.2]; rfl
  · constructor
    · intro h3; cases h3
    · intro h3; exact absurd h3.1 h1
end Go.Proofs.Ytgmjolngnhdafaa.Kit

end
section
namespace Go.Proofs.Ytgmjolngnhdafaa.P
open Go Go.RowKit Go.Proofs.YtgmjolngnhdafaaW.PrintWords
/-- The number of a kind that is one. -/
def KindOk (r : Int) : Prop := (0 ≤ r ∧ r ≤ 4) ∨ (8 ≤ r ∧ r ≤ 2000000000)
instance (r : Int) : Decidable (KindOk r) := by unfold KindOk; infer_instance
def impl_kindIn.f (k : Nat) (l0 : List S38) (a b : Int) : Option Bool :=
  if KindOk a ∧ KindOk b then
    (if a = b then some true else if b = 0 then some true else if a = 2 then some (b != 1) else if a = 3 ∨ a = 4 then some (b == 8) else if 8 ≤ a then (if 8 ≤ b then impl_classUp.f k l0 (a - 8) (b - 8) else some false) else some false)
  else none
theorem impl_kindIn.mono : ∀ a0 a1 a2 k, LeO (impl_kindIn.f k a0 a1 a2) (impl_kindIn.f (k + 1) a0 a1 a2) := by
  intro a0 a1 a2 k
  unfold impl_kindIn.f
  repeat' first
      | (with_reducible exact impl_classUp.mono _ _ _ _)
      | (with_reducible exact LeO.refl _)
      | (with_reducible exact LeO.none _)
      | (with_reducible refine LeO.ite ?_ ?_)
end Go.Proofs.Ytgmjolngnhdafaa.P

end
section
namespace Go.Proofs.Ytgmjolngnhdafaa.P
open Go.RowKit Go.Proofs.YtgmjolngnhdafaaW.PrintWords Go.Proofs.YtgmjolngnhdafaaW.PrintLast Go.Proofs.YtgmjolngnhdafaaW.PrintMore
attribute [local go_sem] max2_int min2_int max_two min_two max_three min_three max_four min_four
set_option linter.unusedVariables false
set_option linter.unusedSimpArgs false

/-! ### impl_typeIn: function 72 -/
def impl_typeIn.f (k : Nat) (l0 : List (S38)) (a1 : Int) (a2 : Int) : Option (Bool) := (impl_kindOf.f (l0.length : Int) a1).bind fun t354 => ((impl_kindOf.f (l0.length : Int) a2).bind fun t355 => (if t354 = (-1) then (some false) else (if t355 = (-1) then (some false) else ((impl_kindIn.f k l0 t354 t355).bind fun t356 => (some t356)))))
theorem impl_typeIn.mono : ∀ a0 a1 a2 k, LeO (impl_typeIn.f k a0 a1 a2) (impl_typeIn.f (k + 1) a0 a1 a2) := by
  intro a0 a1 a2 k
  unfold impl_typeIn.f
  repeat' first
      | (with_reducible exact impl_kindIn.mono _ _ _ _)
      | (with_reducible exact LeO.refl _)
      | (with_reducible exact LeO.none _)
      | (with_reducible refine LeO.ite ?_ ?_)
      | (with_reducible refine LeO.bind ?_ (fun _ => ?_))
      | exact impl_kindIn.mono _ _ _ _
      | exact LeO.none _
      | refine LeO.ite ?_ ?_
      | refine LeO.bind ?_ (fun _ => ?_)

end Go.Proofs.Ytgmjolngnhdafaa.P

end
section
namespace Go.Proofs.Ytgmjolngnhdafaa.P
open Go.RowKit Go.Proofs.YtgmjolngnhdafaaW.PrintWords Go.Proofs.YtgmjolngnhdafaaW.PrintLast Go.Proofs.YtgmjolngnhdafaaW.PrintMore
attribute [local go_sem] max2_int min2_int max_two min_two max_three min_three max_four min_four
set_option linter.unusedVariables false
set_option linter.unusedSimpArgs false

/-! ### impl_TypeIn: function 35 -/
def impl_TypeIn.f (k : Nat) (l0 : List (S38)) (a1 : Int) (a2 : Int) : Option (Bool) := (impl_ClassesOk.f k l0).bind fun t357 => (if t357 = true then ((impl_typeIn.f k l0 a1 a2).bind fun t358 => (some t358)) else (some false))
theorem impl_TypeIn.mono : ∀ a0 a1 a2 k, LeO (impl_TypeIn.f k a0 a1 a2) (impl_TypeIn.f (k + 1) a0 a1 a2) := by
  intro a0 a1 a2 k
  unfold impl_TypeIn.f
  repeat' first
      | (with_reducible exact impl_ClassesOk.mono _ _)
      | (with_reducible exact impl_typeIn.mono _ _ _ _)
      | (with_reducible exact LeO.refl _)
      | (with_reducible exact LeO.none _)
      | (with_reducible refine LeO.ite ?_ ?_)
      | (with_reducible refine LeO.bind ?_ (fun _ => ?_))
      | exact impl_ClassesOk.mono _ _
      | exact impl_typeIn.mono _ _ _ _
      | exact LeO.none _
      | refine LeO.ite ?_ ?_
      | refine LeO.bind ?_ (fun _ => ?_)

end Go.Proofs.Ytgmjolngnhdafaa.P

end
section
namespace Go.Proofs.Ytgmjolngnhdafaa.P
open Go.RowKit Go.Proofs.YtgmjolngnhdafaaW.PrintWords Go.Proofs.YtgmjolngnhdafaaW.PrintLast Go.Proofs.YtgmjolngnhdafaaW.PrintMore
attribute [local go_sem] max2_int min2_int max_two min_two max_three min_three max_four min_four
set_option linter.unusedVariables false
set_option linter.unusedSimpArgs false

/-! ### spec_TypeOk: function 25 -/
def spec_TypeOk.f (k : Nat) (l0 : List (S38)) (a1 : Int) : Option (Bool) := (spec_ClassesOk.f k l0).bind fun t164 => (if t164 = true then (if a1 = 0 then (some true) else (if a1 = 2 then (some true) else ((spec_l2Field.f l0 a1).bind fun t165 => (some t165)))) else (some false))
theorem spec_TypeOk.mono : ∀ a0 a1 k, LeO (spec_TypeOk.f k a0 a1) (spec_TypeOk.f (k + 1) a0 a1) := by
  intro a0 a1 k
  unfold spec_TypeOk.f
  repeat' first
      | (with_reducible exact spec_ClassesOk.mono _ _)
      | (with_reducible exact LeO.refl _)
      | (with_reducible exact LeO.none _)
      | (with_reducible refine LeO.ite ?_ ?_)
      | (with_reducible refine LeO.bind ?_ (fun _ => ?_))
      | exact spec_ClassesOk.mono _ _
      | exact LeO.none _
      | refine LeO.ite ?_ ?_
      | refine LeO.bind ?_ (fun _ => ?_)

end Go.Proofs.Ytgmjolngnhdafaa.P

end
section
namespace Go.Proofs.Ytgmjolngnhdafaa.P
open Go.RowKit Go.Proofs.YtgmjolngnhdafaaW.PrintWords Go.Proofs.YtgmjolngnhdafaaW.PrintLast Go.Proofs.YtgmjolngnhdafaaW.PrintMore
attribute [local go_sem] max2_int min2_int max_two min_two max_three min_three max_four min_four
set_option linter.unusedVariables false
set_option linter.unusedSimpArgs false

/-! ### spec_l2Ref: function 90 -/
def spec_l2Ref.f (a0 : Int) : Option (Bool) := some (decide (a0 ≥ 2))

end Go.Proofs.Ytgmjolngnhdafaa.P

end
section
namespace Go.Proofs.Ytgmjolngnhdafaa.P
open Go.RowKit Go.Proofs.YtgmjolngnhdafaaW.PrintWords Go.Proofs.YtgmjolngnhdafaaW.PrintLast Go.Proofs.YtgmjolngnhdafaaW.PrintMore
attribute [local go_sem] max2_int min2_int max_two min_two max_three min_three max_four min_four
set_option linter.unusedVariables false
set_option linter.unusedSimpArgs false

/-! ### spec_l2In: function 73 -/
mutual
def spec_l2In.j0 : Nat → List (S38) → Int → Int → Bool → Option (Bool)
  | 0, _, _, _, _ => none
  | k + 1, x0, x1, x2, x13 => if x13 = true then (some true) else (if x1 = 2 then ((spec_l2Ref.f x2).bind fun t397 => (some t397)) else ((spec_l2Ref.f x1).bind fun t398 => (if t398 = true then (spec_l2In.j1 k x0 x1 x2 (decide (x2 < 8))) else (spec_l2In.j1 k x0 x1 x2 true))))
def spec_l2In.j1 : Nat → List (S38) → Int → Int → Bool → Option (Bool)
  | 0, _, _, _, _ => none
  | k + 1, x0, x1, x2, x24 => if x24 = true then (some false) else (if x1 < 8 then (some (x2 == 8)) else ((spec_l2Up.f k x0 (wrap64 (x1 - 8)) (wrap64 (x2 - 8))).bind fun t399 => (some t399)))
end
def spec_l2In.f (k : Nat) (l0 : List (S38)) (a1 : Int) (a2 : Int) : Option (Bool) := if a1 = a2 then (spec_l2In.j0 k l0 a1 a2 true) else (spec_l2In.j0 k l0 a1 a2 (a2 == 0))
theorem spec_l2In.mono_l : ∀ k, (∀ y0 y1 y2 y3, LeO (spec_l2In.j0 k y0 y1 y2 y3) (spec_l2In.j0 (k + 1) y0 y1 y2 y3)) ∧ (∀ y0 y1 y2 y3, LeO (spec_l2In.j1 k y0 y1 y2 y3) (spec_l2In.j1 (k + 1) y0 y1 y2 y3))
  | 0 => ⟨fun _ _ _ _ r h => by simp [spec_l2In.j0] at h, fun _ _ _ _ r h => by simp [spec_l2In.j1] at h⟩
  | k + 1 => by
    obtain ⟨ih0, ih1⟩ := spec_l2In.mono_l k
    refine ⟨?_, ?_⟩
    · intro y0 y1 y2 y3
      unfold spec_l2In.j0
      repeat' first
      | (with_reducible exact ih0 _ _ _ _)
      | (with_reducible exact ih1 _ _ _ _)
      | (with_reducible exact spec_l2Up.mono _ _ _ _)
      | (with_reducible exact LeO.refl _)
      | (with_reducible exact LeO.none _)
      | (with_reducible refine LeO.ite ?_ ?_)
      | (with_reducible refine LeO.bind ?_ (fun _ => ?_))
      | exact ih0 _ _ _ _
      | exact ih1 _ _ _ _
      | exact spec_l2Up.mono _ _ _ _
      | exact LeO.none _
      | refine LeO.ite ?_ ?_
      | refine LeO.bind ?_ (fun _ => ?_)
    · intro y0 y1 y2 y3
      unfold spec_l2In.j1
      repeat' first
      | (with_reducible exact ih0 _ _ _ _)
      | (with_reducible exact ih1 _ _ _ _)
      | (with_reducible exact spec_l2Up.mono _ _ _ _)
      | (with_reducible exact LeO.refl _)
      | (with_reducible exact LeO.none _)
      | (with_reducible refine LeO.ite ?_ ?_)
      | (with_reducible refine LeO.bind ?_ (fun _ => ?_))
      | exact ih0 _ _ _ _
      | exact ih1 _ _ _ _
      | exact spec_l2Up.mono _ _ _ _
      | exact LeO.none _
      | refine LeO.ite ?_ ?_
      | refine LeO.bind ?_ (fun _ => ?_)
theorem spec_l2In.mono : ∀ a0 a1 a2 k, LeO (spec_l2In.f k a0 a1 a2) (spec_l2In.f (k + 1) a0 a1 a2) := by
  intro a0 a1 a2 k
  obtain ⟨ih0, ih1⟩ := spec_l2In.mono_l k
  unfold spec_l2In.f
  repeat' first
      | (with_reducible exact ih0 _ _ _ _)
      | (with_reducible exact ih1 _ _ _ _)
      | (with_reducible exact spec_l2Up.mono _ _ _ _)
      | (with_reducible exact LeO.refl _)
      | (with_reducible exact LeO.none _)
      | (with_reducible refine LeO.ite ?_ ?_)
      | (with_reducible refine LeO.bind ?_ (fun _ => ?_))
      | exact ih0 _ _ _ _
      | exact ih1 _ _ _ _
      | exact spec_l2Up.mono _ _ _ _
      | exact LeO.none _
      | refine LeO.ite ?_ ?_
      | refine LeO.bind ?_ (fun _ => ?_)

end Go.Proofs.Ytgmjolngnhdafaa.P

end
section
namespace Go.Proofs.Ytgmjolngnhdafaa.P
open Go.RowKit Go.Proofs.YtgmjolngnhdafaaW.PrintWords Go.Proofs.YtgmjolngnhdafaaW.PrintLast Go.Proofs.YtgmjolngnhdafaaW.PrintMore
attribute [local go_sem] max2_int min2_int max_two min_two max_three min_three max_four min_four
set_option linter.unusedVariables false
set_option linter.unusedSimpArgs false

/-! ### spec_TypeIn: function 40 -/
def spec_TypeIn.f (k : Nat) (l0 : List (S38)) (a1 : Int) (a2 : Int) : Option (Bool) := (spec_TypeOk.f k l0 a1).bind fun t400 => (if t400 = true then ((spec_TypeOk.f k l0 a2).bind fun t401 => (if t401 = true then ((spec_l2In.f k l0 a1 a2).bind fun t402 => (some t402)) else (some false))) else (some false))
theorem spec_TypeIn.mono : ∀ a0 a1 a2 k, LeO (spec_TypeIn.f k a0 a1 a2) (spec_TypeIn.f (k + 1) a0 a1 a2) := by
  intro a0 a1 a2 k
  unfold spec_TypeIn.f
  repeat' first
      | (with_reducible exact spec_TypeOk.mono _ _ _)
      | (with_reducible exact spec_l2In.mono _ _ _ _)
      | (with_reducible exact LeO.refl _)
      | (with_reducible exact LeO.none _)
      | (with_reducible refine LeO.ite ?_ ?_)
      | (with_reducible refine LeO.bind ?_ (fun _ => ?_))
      | exact spec_TypeOk.mono _ _ _
      | exact spec_l2In.mono _ _ _ _
      | exact LeO.none _
      | refine LeO.ite ?_ ?_
      | refine LeO.bind ?_ (fun _ => ?_)

end Go.Proofs.Ytgmjolngnhdafaa.P

end
section
namespace Go.Proofs.Ytgmjolngnhdafaa.P
open Go.RowKit Go.Proofs.YtgmjolngnhdafaaW.PrintWords Go.Proofs.YtgmjolngnhdafaaW.PrintLast Go.Proofs.YtgmjolngnhdafaaW.PrintMore
attribute [local go_sem] max2_int min2_int max_two min_two max_three min_three max_four min_four
set_option linter.unusedVariables false
set_option linter.unusedSimpArgs false

/-! ### impl_TypeOk: function 26 -/
def impl_TypeOk.f (k : Nat) (l0 : List (S38)) (a1 : Int) : Option (Bool) := (impl_ClassesOk.f k l0).bind fun t166 => (if t166 = true then ((impl_kindOf.f (l0.length : Int) a1).bind fun t167 => (some (t167 != (-1)))) else (some false))
theorem impl_TypeOk.mono : ∀ a0 a1 k, LeO (impl_TypeOk.f k a0 a1) (impl_TypeOk.f (k + 1) a0 a1) := by
  intro a0 a1 k
  unfold impl_TypeOk.f
  repeat' first
      | (with_reducible exact impl_ClassesOk.mono _ _)
      | (with_reducible exact LeO.refl _)
      | (with_reducible exact LeO.none _)
      | (with_reducible refine LeO.ite ?_ ?_)
      | (with_reducible refine LeO.bind ?_ (fun _ => ?_))
      | exact impl_ClassesOk.mono _ _
      | exact LeO.none _
      | refine LeO.ite ?_ ?_
      | refine LeO.bind ?_ (fun _ => ?_)

end Go.Proofs.Ytgmjolngnhdafaa.P

end
section
namespace Go.Proofs.Ytgmjolngnhdafaa.Kit
open Go Go.RowKit Go.Proofs.YtgmjolngnhdafaaW.PrintWords Go.Proofs.Ytgmjolngnhdafaa.P
set_option linter.unusedVariables false
theorem iff_no {p : Prop} (h : ¬ p) : (false = true) ↔ p := ⟨fun h2 => (by cases h2), fun h2 => absurd h2 h⟩
theorem iff_yes {p : Prop} (h : p) : (true = true) ↔ p := ⟨fun _ => h, fun _ => rfl⟩
theorem Up.via {cs : List Cls} {a b p : Nat} (hp : sup cs a = (p : Int)) (hne : a ≠ b) : Up cs a b ↔ Up cs p b := by
  constructor
  · intro h
    rcases h.inv with rfl | ⟨q, hq, h2⟩
    · exact absurd rfl hne
    · have : p = q := by omega
      subst this
      exact h2
  · intro h; exact .step p hp h
theorem spec_up {cs : List Cls} (h : ClsOk cs) (b : Nat) : ∀ a : Nat, a < cs.length → Evp (fun k => spec_l2Up.f k cs (a : Int) (b : Int)) (fun r => r = true ↔ Up cs a b) := by
  intro a
  induction a using Nat.strongRecOn with
  | _ a ih =>
    intro ha
    unfold spec_l2Up.f at ih ⊢
    refine Evp.step (f := fun k => _) (fun k => by rw [spec_l2Up.l0, rdSup]) (Evp.ite (fun hab => ?_) (fun hab => Evp.pure _ ?_))
    · obtain ⟨p, hp, hlt⟩ := h.sup_nat (by omega : 1 ≤ a) ha
      refine Evp.yes (by omega) (Evp.yes (by omega) ?_)
      rw [hp]
      exact (ih p hlt (by omega)).mono fun r hr => hr.trans (Up.via hp (by omega)).symm
    · rw [beq_iff_eq]
      constructor
      · intro h2
        have : a = b := by omega
        subst this; exact .refl _
      · intro h2
        have := h2.le h ha
        omega
theorem impl_up {cs : List Cls} (h : ClsOk cs) (b : Nat) : ∀ a : Nat, a < cs.length → Evp (fun k => impl_classUp.f k cs (a : Int) (b : Int)) (fun r => r = true ↔ Up cs a b) := by
  intro a
  induction a using Nat.strongRecOn with
  | _ a ih =>
    intro ha
    unfold impl_classUp.f at ih ⊢
    refine Evp.step (f := fun k => _) (fun k => by rw [impl_classUp.l0, rdSup]) (Evp.yes (by omega) (Evp.ite (fun hab => Evp.pure _ ?_) (fun hab => ?_)))
    · have : a = b := by omega
      subst this
      exact iff_yes (.refl _)
    · refine Evp.yes (by omega) (Evp.yes (by omega) ?_)
      rcases Nat.eq_zero_or_pos a with h0 | h0
      · subst h0
        rw [h.root.1]
        refine Evp.step (f := fun k => _) (fun k => by rw [impl_classUp.l0]) (Evp.no (by omega) (Evp.pure _ (iff_no ?_)))
        intro h2
        have := h2.le h ha
        omega
      · obtain ⟨p, hp, hlt⟩ := h.sup_nat h0 ha
        rw [hp]
        exact (ih p hlt (by omega)).mono fun r hr => hr.trans (Up.via hp (by omega)).symm
/-- A type of so many classes. -/
def TyOk (n : Nat) (t : Int) : Prop := t = 0 ∨ t = 2 ∨ FieldTy n t
theorem tyOk_iff {n : Nat} {t : Int} : TyOk n t ↔ (0 ≤ t ∧ t ≤ 4) ∨ (8 ≤ t ∧ t < 8 + (n : Int)) := by
  unfold TyOk FieldTy
  omega
theorem kindOf_ty {n : Nat} {t : Int} (hn : n ≤ 1000000000) (h0 : -9223372036854775808 ≤ t) (h1 : t ≤ 9223372036854775807) :
    ∃ r, impl_kindOf.f (n : Int) t = some r ∧ (TyOk n t ∧ r = t ∨ ¬ TyOk n t ∧ r = -1) := by
  refine ⟨_, kindOf_eq hn h0 h1, ?_⟩
  rw [tyOk_iff]
  by_cases h : (0 ≤ t ∧ t ≤ 4) ∨ (8 ≤ t ∧ t < 8 + (n : Int))
  · rw [if_pos h]; exact .inl ⟨h, rfl⟩
  · rw [if_neg h]; exact .inr ⟨h, rfl⟩
theorem spec_typeOk {cs : List Cls} (hs : SmallC cs) (t : Int) : Evp (fun k => spec_TypeOk.f k cs t) (fun r => r = true ↔ ClsOk cs ∧ TyOk cs.length t) := by
  have hl0 := hs.1
  unfold spec_TypeOk.f
  refine Evp.bind (spec_classesOk hs) fun b hb => Evp.ite (fun h => ?_) (fun h => Evp.pure _ (iff_no fun h2 => h (hb.2 h2.1)))
  refine Evp.ite (fun h0 => Evp.pure _ (iff_yes ⟨hb.1 h, .inl h0⟩)) (fun h0 => Evp.ite (fun h2 => Evp.pure _ (iff_yes ⟨hb.1 h, .inr (.inl h2)⟩)) (fun h2 => ?_))
  obtain ⟨c, hc, hc2⟩ := field_eq (cs := cs) (t := t) (by omega)
  simp only [hc, Option.bind_some]
  refine Evp.pure _ (hc2.trans ⟨fun h3 => ⟨hb.1 h, .inr (.inr h3)⟩, fun h3 => ?_⟩)
  rcases h3.2 with h4 | h4 | h4
  · exact absurd h4 h0
  · exact absurd h4 h2
  · exact h4
theorem impl_typeOk {cs : List Cls} (hs : SmallC cs) {t : Int} (ht0 : -9223372036854775808 ≤ t) (ht1 : t ≤ 9223372036854775807) : Evp (fun k => impl_TypeOk.f k cs t) (fun r => r = true ↔ ClsOk cs ∧ TyOk cs.length t) := by
  have hl0 := hs.1
  unfold impl_TypeOk.f
  refine Evp.bind (impl_classesOk hs) fun b hb => Evp.ite (fun h => ?_) (fun h => Evp.pure _ (iff_no fun h2 => h (hb.2 h2.1)))
  obtain ⟨c, hc, hc2⟩ := kindOf_ty (n := cs.length) (by omega) ht0 ht1
  simp only [hc, Option.bind_some]
  refine Evp.pure _ ?_
  rcases hc2 with ⟨h1, rfl⟩ | ⟨h1, rfl⟩
  · have := tyOk_iff.1 h1
    rw [bne_iff_ne]
    exact ⟨fun _ => ⟨hb.1 h, h1⟩, fun _ => by omega⟩
  · exact iff_no fun h2 => h1 h2.2
/-- A value of the one type is one of the other. -/
def TyIn (cs : List Cls) (a b : Int) : Prop := a = b ∨ b = 0 ∨ (a = 2 ∧ 2 ≤ b) ∨ ((a = 3 ∨ a = 4) ∧ b = 8) ∨ (8 ≤ a ∧ 8 ≤ b ∧ Up cs (a - 8).toNat (b - 8).toNat)
theorem spec_tyIn {cs : List Cls} (hs : SmallC cs) (h : ClsOk cs) {a b : Int} (ha : TyOk cs.length a) (hb : TyOk cs.length b) : Evp (fun k => spec_l2In.f k cs a b) (fun r => r = true ↔ TyIn cs a b) := by
  have hl0 := hs.1
  have ha' := tyOk_iff.1 ha
  have hb' := tyOk_iff.1 hb
  unfold spec_l2In.f
  have j0t : TyIn cs a b → Evp (fun k => spec_l2In.j0 k cs a b true) (fun r => r = true ↔ TyIn cs a b) := fun h =>
    Evp.step (f := fun k => _) (fun k => by rw [spec_l2In.j0]) (Evp.yes rfl (Evp.pure _ (iff_yes h)))
  have j1t : ¬ TyIn cs a b → Evp (fun k => spec_l2In.j1 k cs a b true) (fun r => r = true ↔ TyIn cs a b) := fun h =>
    Evp.step (f := fun k => _) (fun k => by rw [spec_l2In.j1]) (Evp.yes rfl (Evp.pure _ (iff_no h)))
  refine Evp.ite (fun h1 => j0t (.inl h1)) (fun h1 => ?_)
  by_cases h2 : b = 0
  · rw [h2, show ((0 : Int) == 0) = true from rfl, ← h2]; exact j0t (.inr (.inl h2))
  rw [show (b == 0) = false from beq_eq_false_iff_ne.2 h2]
  refine Evp.step (f := fun k => _) (fun k => by rw [spec_l2In.j0, spec_l2Ref.f, spec_l2Ref.f, Option.bind_some, Option.bind_some]) (Evp.no (by decide) (Evp.ite (fun h3 => Evp.pure _ ?_) (fun h3 => Evp.ite (fun h4 => ?_) (fun h4 => j1t ?_))))
  · rw [decide_eq_true_iff]
    unfold TyIn
    constructor
    · intro h4; exact .inr (.inr (.inl ⟨h3, by omega⟩))
    · intro h4; omega
  · rw [decide_eq_true_iff] at h4
    by_cases h5 : b < 8
    · rw [decide_eq_true h5]
      refine j1t ?_
      unfold TyIn
      omega
    · rw [decide_eq_false h5]
      refine Evp.step (f := fun k => _) (fun k => by rw [spec_l2In.j1]) (Evp.no (by decide) (Evp.ite (fun h6 => Evp.pure _ ?_) (fun h6 => ?_)))
      · rw [beq_iff_eq]
        unfold TyIn
        constructor
        · intro h7; exact .inr (.inr (.inr (.inl ⟨by omega, h7⟩)))
        · intro h7; omega
      · rw [w64 (n := a - 8) (by omega) (by omega), w64 (n := b - 8) (by omega) (by omega), show a - 8 = (((a - 8).toNat : Nat) : Int) by omega, show b - 8 = (((b - 8).toNat : Nat) : Int) by omega]
        refine Evp.bind (spec_up h _ _ (by omega)) fun c hc => Evp.pure _ (hc.trans ?_)
        unfold TyIn
        constructor
        · intro h7; exact .inr (.inr (.inr (.inr ⟨by omega, by omega, by simpa using h7⟩)))
        · intro h7
          rcases h7 with h7 | h7 | h7 | h7 | h7
          · omega
          · omega
          · omega
          · omega
          · simpa using h7.2.2
  · rw [decide_eq_true_iff] at h4
    unfold TyIn
    omega
theorem impl_kdIn {cs : List Cls} (hs : SmallC cs) (h : ClsOk cs) {a b : Int} (ha : TyOk cs.length a) (hb : TyOk cs.length b) : Evp (fun k => impl_kindIn.f k cs a b) (fun r => r = true ↔ TyIn cs a b) := by
  have hl0 := hs.1
  have ha' := tyOk_iff.1 ha
  have hb' := tyOk_iff.1 hb
  unfold impl_kindIn.f
  refine Evp.yes ⟨by unfold KindOk; omega, by unfold KindOk; omega⟩ ?_
  refine Evp.ite (fun h1 => Evp.pure _ (iff_yes (.inl h1))) (fun h1 => Evp.ite (fun h2 => Evp.pure _ (iff_yes (.inr (.inl h2)))) (fun h2 => Evp.ite (fun h3 => Evp.pure _ ?_) (fun h3 => Evp.ite (fun h4 => Evp.pure _ ?_) (fun h4 => Evp.ite (fun h5 => Evp.ite (fun h6 => ?_) (fun h6 => Evp.pure _ (iff_no ?_))) (fun h5 => Evp.pure _ (iff_no ?_))))))
  · rw [bne_iff_ne]
    unfold TyIn
    constructor
    · intro h4; exact .inr (.inr (.inl ⟨h3, by omega⟩))
    · intro h4; omega
  · rw [beq_iff_eq]
    unfold TyIn
    constructor
    · intro h7; exact .inr (.inr (.inr (.inl ⟨h4, h7⟩)))
    · intro h7; omega
  · rw [show a - 8 = (((a - 8).toNat : Nat) : Int) by omega, show b - 8 = (((b - 8).toNat : Nat) : Int) by omega]
    refine (impl_up h _ _ (by omega)).mono fun c hc => hc.trans ?_
    unfold TyIn
    constructor
    · intro h7; exact .inr (.inr (.inr (.inr ⟨by omega, by omega, by simpa using h7⟩)))
    · intro h7
      rcases h7 with h7 | h7 | h7 | h7 | h7
      · omega
      · omega
      · omega
      · omega
      · simpa using h7.2.2
  · unfold TyIn
    omega
  · unfold TyIn
    omega
theorem impl_tyIn {cs : List Cls} (hs : SmallC cs) (h : ClsOk cs) {a b : Int} (ha0 : -9223372036854775808 ≤ a) (ha1 : a ≤ 9223372036854775807) (hb0 : -9223372036854775808 ≤ b) (hb1 : b ≤ 9223372036854775807) :
    Evp (fun k => impl_typeIn.f k cs a b) (fun r => r = true ↔ TyOk cs.length a ∧ TyOk cs.length b ∧ TyIn cs a b) := by
  have hl0 := hs.1
  unfold impl_typeIn.f
  obtain ⟨r, hr, hr2⟩ := kindOf_ty (n := cs.length) (by omega) ha0 ha1
  obtain ⟨q, hq, hq2⟩ := kindOf_ty (n := cs.length) (by omega) hb0 hb1
  simp only [hr, hq, Option.bind_some]
  rcases hr2 with ⟨h1, rfl⟩ | ⟨h1, rfl⟩
  · refine Evp.no (by have := tyOk_iff.1 h1; omega) ?_
    rcases hq2 with ⟨h2, rfl⟩ | ⟨h2, rfl⟩
    · refine Evp.no (by have := tyOk_iff.1 h2; omega) ?_
      refine Evp.bind (impl_kdIn hs h h1 h2) fun c hc => Evp.pure _ (hc.trans ⟨fun h3 => ⟨h1, h2, h3⟩, fun h3 => h3.2.2⟩)
    · exact Evp.yes rfl (Evp.pure _ (iff_no fun h3 => h2 h3.2.1))
  · exact Evp.yes rfl (Evp.pure _ (iff_no fun h3 => h1 h3.1))
theorem impl_TypeIn' {cs : List Cls} (hs : SmallC cs) {a b : Int} (ha0 : -9223372036854775808 ≤ a) (ha1 : a ≤ 9223372036854775807) (hb0 : -9223372036854775808 ≤ b) (hb1 : b ≤ 9223372036854775807) :
    Evp (fun k => impl_TypeIn.f k cs a b) (fun r => r = true ↔ ClsOk cs ∧ TyOk cs.length a ∧ TyOk cs.length b ∧ TyIn cs a b) := by
  unfold impl_TypeIn.f
  refine Evp.bind (impl_classesOk hs) fun c hc => Evp.ite (fun h => ?_) (fun h => Evp.pure _ (iff_no fun h2 => h (hc.2 h2.1)))
  exact Evp.bind (impl_tyIn hs (hc.1 h) ha0 ha1 hb0 hb1) fun d hd => Evp.pure _ (hd.trans ⟨fun h3 => ⟨hc.1 h, h3⟩, fun h3 => h3.2⟩)
theorem spec_TypeIn' {cs : List Cls} (hs : SmallC cs) (a b : Int) :
    Evp (fun k => spec_TypeIn.f k cs a b) (fun r => r = true ↔ ClsOk cs ∧ TyOk cs.length a ∧ TyOk cs.length b ∧ TyIn cs a b) := by
  unfold spec_TypeIn.f
  refine Evp.bind (spec_typeOk hs a) fun c hc => Evp.ite (fun h => ?_) (fun h => Evp.pure _ (iff_no fun h2 => h (hc.2 ⟨h2.1, h2.2.1⟩)))
  refine Evp.bind (spec_typeOk hs b) fun d hd => Evp.ite (fun h' => ?_) (fun h' => Evp.pure _ (iff_no fun h2 => h' (hd.2 ⟨h2.1, h2.2.2.1⟩)))
  obtain ⟨h3, h4⟩ := hc.1 h
  have h5 := (hd.1 h').2
  exact Evp.bind (spec_tyIn hs h3 h4 h5) fun e he => Evp.pure _ (he.trans ⟨fun h6 => ⟨h3, h4, h5, h6⟩, fun h6 => h6.2.2.2⟩)
end Go.Proofs.Ytgmjolngnhdafaa.Kit

end
section
namespace Go.Proofs.Ytgmjolngnhdafaa.Kit
open Go Go.RowKit Go.Proofs.YtgmjolngnhdafaaW.PrintWords Go.Proofs.Ytgmjolngnhdafaa.P
/-- a and b are classes, and a is b or below it. -/
def UpC (cs : List Cls) (a b : Int) : Prop := ClsOk cs ∧ (0 ≤ a ∧ a < (cs.length : Int)) ∧ (0 ≤ b ∧ b < (cs.length : Int)) ∧ Up cs a.toNat b.toNat
theorem spec_is {cs : List Cls} (hs : SmallC cs) (a : Int) : Evp (fun k => spec_l2Is.f k cs a) (fun r => r = true ↔ ClsOk cs ∧ 0 ≤ a ∧ a < (cs.length : Int)) := by
  have hl0 := hs.1
  unfold spec_l2Is.f
  refine Evp.bind (spec_classesOk hs) fun b hb => Evp.ite (fun h => ?_) (fun h => Evp.pure _ (iff_no fun h2 => h (hb.2 h2.1)))
  have hc := hb.1 h
  have := hc.lo
  rw [w64 (by omega) (by omega), in_eq]
  refine Evp.pure _ ?_
  rw [decide_eq_true_iff]
  constructor
  · intro h2; exact ⟨hc, by omega, by omega⟩
  · intro h2; omega
theorem spec_ClassUp' {cs : List Cls} (hs : SmallC cs) (a b : Int) : Evp (fun k => spec_ClassUp.f k cs a b) (fun r => r = true ↔ UpC cs a b) := by
  unfold spec_ClassUp.f
  refine Evp.bind (spec_is hs a) fun c hc => Evp.ite (fun h => ?_) (fun h => Evp.pure _ (iff_no fun h2 => h (hc.2 ⟨h2.1, h2.2.1⟩)))
  refine Evp.bind (spec_is hs b) fun d hd => Evp.ite (fun h' => ?_) (fun h' => Evp.pure _ (iff_no fun h2 => h' (hd.2 ⟨h2.1, h2.2.2.1⟩)))
  obtain ⟨h3, h4⟩ := hc.1 h
  have h5 := (hd.1 h').2
  have ea : a = ((a.toNat : Nat) : Int) := by omega
  have eb : b = ((b.toNat : Nat) : Int) := by omega
  have := spec_up h3 b.toNat a.toNat (by omega)
  rw [← ea, ← eb] at this
  exact Evp.bind this fun e he => Evp.pure _ (he.trans ⟨fun h6 => ⟨h3, h4, h5, h6⟩, fun h6 => h6.2.2.2⟩)
theorem impl_ClassUp' {cs : List Cls} (hs : SmallC cs) (a b : Int) : Evp (fun k => impl_ClassUp.f k cs a b) (fun r => r = true ↔ UpC cs a b) := by
  unfold impl_ClassUp.f
  obtain ⟨x, hx, hx2⟩ := impl_isClass_eq cs a
  obtain ⟨y, hy, hy2⟩ := impl_isClass_eq cs b
  refine Evp.bind (impl_classesOk hs) fun c hc => Evp.ite (fun h => ?_) (fun h => Evp.pure _ (iff_no fun h2 => h (hc.2 h2.1)))
  simp only [hx, hy, Option.bind_some]
  refine Evp.ite (fun h1 => ?_) (fun h1 => Evp.pure _ (iff_no fun h2 => h1 (hx2.2 h2.2.1)))
  refine Evp.ite (fun h1' => ?_) (fun h1' => Evp.pure _ (iff_no fun h2 => h1' (hy2.2 h2.2.2.1)))
  have h3 := hc.1 h
  have h4 := hx2.1 h1
  have h5 := hy2.1 h1'
  have ea : a = ((a.toNat : Nat) : Int) := by omega
  have eb : b = ((b.toNat : Nat) : Int) := by omega
  have := impl_up h3 b.toNat a.toNat (by omega)
  rw [← ea, ← eb] at this
  exact Evp.bind this fun e he => Evp.pure _ (he.trans ⟨fun h6 => ⟨h3, h4, h5, h6⟩, fun h6 => h6.2.2.2⟩)
end Go.Proofs.Ytgmjolngnhdafaa.Kit

end
section
namespace Go.Proofs.Ytgmjolngnhdafaa.Kit
open Go Go.RowKit Go.Proofs.YtgmjolngnhdafaaW.PrintWords Go.Proofs.Ytgmjolngnhdafaa.P
set_option linter.unusedVariables false
theorem is_evp {cs : List Cls} (hs : SmallC cs) (a : Int) : Evp (fun k => laws_leIs.f k cs a) (fun r => r = true ↔ ClsOk cs ∧ 0 ≤ a ∧ a < (cs.length : Int)) := by
  unfold laws_leIs.f
  refine Evp.bind (spec_classesOk hs) fun c hc => Evp.ite (fun h => ?_) (fun h => Evp.pure _ (iff_no fun h2 => h (hc.2 h2.1)))
  refine Evp.ite (fun h1 => Evp.pure _ ?_) (fun h1 => Evp.pure _ (iff_no fun h2 => h1 h2.2.1))
  rw [decide_eq_true_iff]
  exact ⟨fun h2 => ⟨hc.1 h, h1, h2⟩, fun h2 => h2.2.2⟩
theorem drawUp_evp {l : List Int} (h : ∀ x ∈ l, (Lit.int .u8 x).wf = true) :
    Evp (fun k => spec_DrawClassUp.f k l) (fun r => Drawn 4 9 r.1 ∧ (-1 ≤ r.2.1 ∧ r.2.1 ≤ 10) ∧ (-1 ≤ r.2.2 ∧ r.2.2 ≤ 10)) := by
  obtain ⟨bs, ho, hb⟩ := open_evp h
  unfold spec_DrawClassUp.f
  simp only [ho, Option.bind_some]
  refine Evp.bind (off_evp hb (by omega) (by omega)) fun d hd => ?_
  obtain ⟨hd1, hd2, hd3⟩ := hd
  have hl := hd1.1
  have hl9 := hd1.2.1
  refine Evp.bind (pick_evp hb hd2 (by omega) (by omega)) fun a ha => Evp.bind (pick_evp hb (by omega) (by omega) (by omega)) fun b hb' => ?_
  refine Evp.bind (pick_evp hb (by omega) (by omega) (by omega)) fun c hc => Evp.bind (pick_evp hb (by omega) (by omega) (by omega)) fun e he => Evp.pure _ ⟨hd1, ?_, ?_⟩
  · have h1 := ha.2.1 (by omega)
    have h2 := hb'.2.1 (by omega)
    have h3 := ha.1
    have h4 := hb'.1
    dsimp only
    rw [tdiv_pos h4, w64 (n := b.1 / 23) (by omega) (by omega), w64 (by omega) (by omega)]
    omega
  · have h1 := hc.2.1 (by omega)
    have h2 := he.2.1 (by omega)
    have h3 := hc.1
    have h4 := he.1
    dsimp only
    rw [tdiv_pos h4, w64 (n := e.1 / 23) (by omega) (by omega), w64 (by omega) (by omega)]
    omega
end Go.Proofs.Ytgmjolngnhdafaa.Kit

end
section
namespace Go.Proofs.Ytgmjolngnhdafaa.P
open Go.RowKit Go.Proofs.YtgmjolngnhdafaaW.PrintWords Go.Proofs.YtgmjolngnhdafaaW.PrintLast Go.Proofs.YtgmjolngnhdafaaW.PrintMore
attribute [local go_sem] max2_int min2_int max_two min_two max_three min_three max_four min_four
set_option linter.unusedVariables false
set_option linter.unusedSimpArgs false

/-! ### spec_l2Fields: function 71 -/
def spec_l2Fields.f : Nat → List (S38) → Int → Option (List Int)
  | 0, _, _ => none
  | k + 1, l0, a1 => if a1 = 0 then (some (([] : List Int))) else (if 0 ≤ a1 then (if a1 < (l0.length : Int) then ((spec_l2Fields.f k l0 ((rd_T38 l0 a1).f0)).bind fun t309 => (if t309.length + ((rd_T38 l0 a1).f1).length < 17592186044416 then (some (t309 ++ ((rd_T38 l0 a1).f1))) else (none))) else (none)) else (none))
theorem spec_l2Fields.mono_l : ∀ k, (∀ y0 y1, LeO (spec_l2Fields.f k y0 y1) (spec_l2Fields.f (k + 1) y0 y1))
  | 0 => fun _ _ r h => by simp [spec_l2Fields.f] at h
  | k + 1 => by
    have ih0 := spec_l2Fields.mono_l k
    · intro y0 y1
      unfold spec_l2Fields.f
      repeat' first
      | (with_reducible exact ih0 _ _)
      | (with_reducible exact LeO.refl _)
      | (with_reducible exact LeO.none _)
      | (with_reducible refine LeO.ite ?_ ?_)
      | (with_reducible refine LeO.bind ?_ (fun _ => ?_))
      | exact ih0 _ _
      | exact LeO.none _
      | refine LeO.ite ?_ ?_
      | refine LeO.bind ?_ (fun _ => ?_)
theorem spec_l2Fields.mono : ∀ a0 a1 k, LeO (spec_l2Fields.f k a0 a1) (spec_l2Fields.f (k + 1) a0 a1) := by
  intro a0 a1 k
  have ih0 := spec_l2Fields.mono_l k
  exact ih0 a0 a1

end Go.Proofs.Ytgmjolngnhdafaa.P

end
section
namespace Go.Proofs.Ytgmjolngnhdafaa.P
open Go.RowKit Go.Proofs.YtgmjolngnhdafaaW.PrintWords Go.Proofs.YtgmjolngnhdafaaW.PrintLast Go.Proofs.YtgmjolngnhdafaaW.PrintMore
attribute [local go_sem] max2_int min2_int max_two min_two max_three min_three max_four min_four
set_option linter.unusedVariables false
set_option linter.unusedSimpArgs false

/-! ### spec_ClassFields: function 34 -/
def spec_ClassFields.f (k : Nat) (l0 : List (S38)) (a1 : Int) : Option (List Int) := (spec_l2Is.f k l0 a1).bind fun t316 => (if t316 = true then ((spec_l2Fields.f k l0 a1).bind fun t317 => (some t317)) else (some (([] : List Int))))
theorem spec_ClassFields.mono : ∀ a0 a1 k, LeO (spec_ClassFields.f k a0 a1) (spec_ClassFields.f (k + 1) a0 a1) := by
  intro a0 a1 k
  unfold spec_ClassFields.f
  repeat' first
      | (with_reducible exact spec_l2Fields.mono _ _ _)
      | (with_reducible exact spec_l2Is.mono _ _ _)
      | (with_reducible exact LeO.refl _)
      | (with_reducible exact LeO.none _)
      | (with_reducible refine LeO.ite ?_ ?_)
      | (with_reducible refine LeO.bind ?_ (fun _ => ?_))
      | exact spec_l2Fields.mono _ _ _
      | exact spec_l2Is.mono _ _ _
      | exact LeO.none _
      | refine LeO.ite ?_ ?_
      | refine LeO.bind ?_ (fun _ => ?_)

end Go.Proofs.Ytgmjolngnhdafaa.P

end
