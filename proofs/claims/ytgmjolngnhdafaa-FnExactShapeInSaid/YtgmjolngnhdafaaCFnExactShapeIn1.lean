/- A part of the claim FnExactShapeIn: texts of this session and texts that its program printed out of the translation, joined. -/
import Derived.Test.YtgmjolngnhdafaaCFnExactShapeIn0
import Derived.WalkSpells
import Derived.WalkLawsBesides
section
namespace Go.Proofs.Ytgmjolngnhdafaa.P
open Go.RowKit Go.Proofs.YtgmjolngnhdafaaW.PrintWords Go.Proofs.YtgmjolngnhdafaaW.PrintLast Go.Proofs.YtgmjolngnhdafaaW.PrintMore
attribute [local go_sem] max2_int min2_int max_two min_two max_three min_three max_four min_four
set_option linter.unusedVariables false
set_option linter.unusedSimpArgs false

set_option maxHeartbeats 8000000 in
set_option maxRecDepth 100000 in
theorem laws_eqShape.calls (k : Nat) (a0_0 : Bool) (A0_1 : Option Addr) (c0_1 : Nat) (l0_1 : List Int) (A0_2 : Option Addr) (c0_2 : Nat) (l0_2 : List Int) (a1_0 : Bool) (A1_1 : Option Addr) (c1_1 : Nat) (l1_1 : List Int) (A1_2 : Option Addr) (c1_2 : Nat) (l1_2 : List Int) (r : Bool) (w : World) (hr0_1 : Kd.C (Kd.int .i64) w A0_1 l0_1.length l0_1) (hc0_1 : l0_1.length ≤ c0_1) (hr0_2 : Kd.C (Kd.int .i64) w A0_2 l0_2.length l0_2) (hc0_2 : l0_2.length ≤ c0_2) (hr1_1 : Kd.C (Kd.int .i64) w A1_1 l1_1.length l1_1) (hc1_1 : l1_1.length ≤ c1_1) (hr1_2 : Kd.C (Kd.int .i64) w A1_2 l1_2.length l1_2) (hc1_2 : l1_2.length ≤ c1_2) (h : laws_eqShape.f k a0_0 l0_1 l0_2 a1_0 l1_1 l1_2 = some r) :
    Calls Try.prog 49 #[.agg #[.bool a0_0, .slice A0_1 l0_1.length c0_1, .slice A0_2 l0_2.length c0_2], .agg #[.bool a1_0, .slice A1_1 l1_1.length c1_1, .slice A1_2 l1_2.length c1_2]] w fun e w' => e = .returned (.bool r) ∧ Below w.heap.size w w' := by
  have hu52 := Try.underlying52
  have HR0_1 := Aside0.mk hr0_1
  have HC0_1 := Aside0.mk hc0_1
  clear hr0_1 hc0_1
  have HR0_2 := Aside0.mk hr0_2
  have HC0_2 := Aside0.mk hc0_2
  clear hr0_2 hc0_2
  have HR1_1 := Aside0.mk hr1_1
  have HC1_1 := Aside0.mk hc1_1
  clear hr1_1 hc1_1
  have HR1_2 := Aside0.mk hr1_2
  have HC1_2 := Aside0.mk hc1_2
  clear hr1_2 hc1_2
  have HB := Aside0.mk (Below.refl w.heap.size w)
  have H : (if (a0_0 != a1_0) = true then (some false) else ((laws_eqIntS.f k l0_1 l1_1).bind fun t399 => (if t399 = true then ((laws_eqIntS.f k l0_2 l1_2).bind fun t400 => (if t400 = true then (some true) else (some false))) else (some false)))) = some r := h
  clear h
  by_cases c3 : (a0_0 != a1_0) = true
  · rw [if_pos c3] at H
    have c3b0 : (a0_0 != a1_0) = true := c3
    (try (have c3b1 : decide (a0_0 = a1_0) = false := by simpa using c3))
    (try (have c3b2 : (a0_0 == a1_0) = false := by simpa using c3))
    (try (have c3b3 : ¬ (a0_0 = a1_0) := by simpa using c3))
    clear c3
    obtain rfl := Option.some.inj H
    go_enter Try.func49, Try.ntmps49
    go_wp2_with (first | ((with_reducible refine gate_dst (N := 2) rfl ?_); refine box_event ?hg (N := 2) ?hd (cs := #[.bool a0_0, .slice A0_1 l0_1.length c0_1, .slice A0_2 l0_2.length c0_2]) (t := 52) ?hr ?_; (case hd => rfl); (case hg => rfl); (case hr => first | (go_simp; done) | (go_simp; rfl)); intro gb397 hg w4 hbox hb; have n0_ := Aside0.mk (below_step (by repeat (first | (with_reducible first | exact HB.out | apply below_alloc | apply pw_below_drewN | apply below_drew1) | exact HB.out)) hb); have n1_ := Aside0.mk (hbox); have n2_ := Aside0.mk ((by rw [hg]; exact (below_size (by repeat (first | (with_reducible first | exact HB.out | apply below_alloc | apply pw_below_drewN | apply below_drew1) | exact HB.out))) : w.heap.size ≤ gb397)); have n3_ := Aside0.mk ((by rw [hg]; exact (below_size (by repeat (first | (with_reducible first | exact HB.out | apply below_alloc | apply pw_below_drewN | apply below_drew1) | exact HB.out))) : w.heap.size ≤ gb397)); clear HB; have HB := n0_; have BK397 := n1_; have GW397 := n2_; have GE397 := n3_; clear n0_ n1_ n2_ n3_; clear hb hbox hg) | ((with_reducible refine gate_dst (N := 3) rfl ?_); refine box_event ?hg (N := 3) ?hd (cs := #[.bool a1_0, .slice A1_1 l1_1.length c1_1, .slice A1_2 l1_2.length c1_2]) (t := 52) ?hr ?_; (case hd => rfl); (case hg => rfl); (case hr => first | (go_simp; done) | (go_simp; rfl)); intro gb398 hg w5 hbox hb; have n0_ := Aside0.mk (blk_below (g := gb397) (o := .cells #[.bool a0_0, .slice A0_1 l0_1.length c0_1, .slice A0_2 l0_2.length c0_2] 52 (0, 0)) (by (with_reducible repeat (first | refine blk_drewN ?_ _ | refine blk_drew ?_ | refine blk_alloc ?_ _)); exact BK397.out) hb); have n1_ := Aside0.mk (below_step (by repeat (first | (with_reducible first | exact HB.out | apply below_alloc | apply pw_below_drewN | apply below_drew1 | refine below_set ?_ GE397.out) | exact HB.out)) hb); have n2_ := Aside0.mk (hbox); have n3_ := Aside0.mk ((by rw [hg]; exact (below_size (by repeat (first | (with_reducible first | exact HB.out | apply below_alloc | apply pw_below_drewN | apply below_drew1 | refine below_set ?_ GE397.out) | exact HB.out))) : w.heap.size ≤ gb398)); have n4_ := Aside0.mk ((by rw [hg]; exact (below_size (by repeat (first | (with_reducible first | exact HB.out | apply below_alloc | apply pw_below_drewN | apply below_drew1 | refine below_set ?_ GE397.out) | exact HB.out))) : w.heap.size ≤ gb398)); have n5_ := Aside0.mk ((by rw [hg]; exact Nat.ne_of_lt (blk_lt (g := gb397) (o := .cells #[.bool a0_0, .slice A0_1 l0_1.length c0_1, .slice A0_2 l0_2.length c0_2] 52 (0, 0)) (by (with_reducible repeat (first | refine blk_drewN ?_ _ | refine blk_drew ?_ | refine blk_alloc ?_ _)); exact BK397.out)) : gb397 ≠ gb398)); have n6_ := Aside0.mk ((by rw [hg]; exact Nat.ne_of_gt (blk_lt (g := gb397) (o := .cells #[.bool a0_0, .slice A0_1 l0_1.length c0_1, .slice A0_2 l0_2.length c0_2] 52 (0, 0)) (by (with_reducible repeat (first | refine blk_drewN ?_ _ | refine blk_drew ?_ | refine blk_alloc ?_ _)); exact BK397.out)) : gb398 ≠ gb397)); clear BK397; clear HB; have BK397 := n0_; have HB := n1_; have BK398 := n2_; have GW398 := n3_; have GE398 := n4_; have NB397_398 := n5_; have NB398_397 := n6_; clear n0_ n1_ n2_ n3_ n4_ n5_ n6_; clear hb hbox hg; have hnb6 := NB397_398.out; have hnc6 := NB398_397.out; have hcz7_0 : w5.cell? ⟨gb397, 0, none⟩ = some (.bool a0_0) := (blk_cell BK397.out 0).trans rfl; have hcz7_1 : w5.cell? ⟨gb397, 1, none⟩ = some (.slice A0_1 l0_1.length c0_1) := (blk_cell BK397.out 1).trans rfl; have hcz7_2 : w5.cell? ⟨gb397, 2, none⟩ = some (.slice A0_2 l0_2.length c0_2) := (blk_cell BK397.out 2).trans rfl; have hfz7_0 := blk_frozen BK397.out 0; have hfz7_1 := blk_frozen BK397.out 1; have hfz7_2 := blk_frozen BK397.out 2; have hcz8_0 : w5.cell? ⟨gb398, 0, none⟩ = some (.bool a1_0) := (blk_cell BK398.out 0).trans rfl; have hcz8_1 : w5.cell? ⟨gb398, 1, none⟩ = some (.slice A1_1 l1_1.length c1_1) := (blk_cell BK398.out 1).trans rfl; have hcz8_2 : w5.cell? ⟨gb398, 2, none⟩ = some (.slice A1_2 l1_2.length c1_2) := (blk_cell BK398.out 2).trans rfl; have hfz8_0 := blk_frozen BK398.out 0; have hfz8_1 := blk_frozen BK398.out 1; have hfz8_2 := blk_frozen BK398.out 2))
    go_ret
    exact ⟨by first | rfl | (simp [errW_none, errW_some] <;> rfl) | (simp [*, errW_none, errW_some] <;> rfl), by repeat (first | (with_reducible first | exact HB.out | apply below_alloc | apply pw_below_drewN | apply below_drew1 | refine below_set ?_ GE397.out | refine below_set ?_ GE398.out) | exact HB.out)⟩
  · rw [if_neg c3] at H
    have c3b0 : (a0_0 != a1_0) = false := by simpa using c3
    (try (have c3b1 : decide (a0_0 = a1_0) = true := by simpa using c3))
    (try (have c3b2 : (a0_0 == a1_0) = true := by simpa using c3))
    clear c3
    replace H := Option.bind_eq_some_iff.mp H
    obtain ⟨t399, A90, H⟩ := H
    replace H : (if t399 = true then ((laws_eqIntS.f k l0_2 l1_2).bind fun t400 => (if t400 = true then (some true) else (some false))) else (some false)) = some r := H
    have A9 := Aside0.mk A90
    clear A90
    by_cases c10 : t399 = true
    · subst c10
      have H1 : ((laws_eqIntS.f k l0_2 l1_2).bind fun t400 => (if t400 = true then (some true) else (some false))) = some r := by rw [if_pos rfl] at H; exact H
      clear H
      have H := H1
      clear H1
      replace H := Option.bind_eq_some_iff.mp H
      obtain ⟨t400, A110, H⟩ := H
      replace H : (if t400 = true then (some true) else (some false)) = some r := H
      have A11 := Aside0.mk A110
      clear A110
      by_cases c12 : t400 = true
      · subst c12
        have H1 : (some true) = some r := by rw [if_pos rfl] at H; exact H
        clear H
        have H := H1
        clear H1
        obtain rfl := Option.some.inj H
        go_enter Try.func49, Try.ntmps49
        go_wp2_with (first | ((with_reducible refine gate_dst (N := 2) rfl ?_); refine box_event ?hg (N := 2) ?hd (cs := #[.bool a0_0, .slice A0_1 l0_1.length c0_1, .slice A0_2 l0_2.length c0_2]) (t := 52) ?hr ?_; (case hd => rfl); (case hg => rfl); (case hr => first | (go_simp; done) | (go_simp; rfl)); intro gb397 hg w13 hbox hb; have n0_ := Aside0.mk (below_step (by repeat (first | (with_reducible first | exact HB.out | apply below_alloc | apply pw_below_drewN | apply below_drew1) | exact HB.out)) hb); have n1_ := Aside0.mk (hbox); have n2_ := Aside0.mk ((by rw [hg]; exact (below_size (by repeat (first | (with_reducible first | exact HB.out | apply below_alloc | apply pw_below_drewN | apply below_drew1) | exact HB.out))) : w.heap.size ≤ gb397)); have n3_ := Aside0.mk ((by rw [hg]; exact (below_size (by repeat (first | (with_reducible first | exact HB.out | apply below_alloc | apply pw_below_drewN | apply below_drew1) | exact HB.out))) : w.heap.size ≤ gb397)); clear HB; have HB := n0_; have BK397 := n1_; have GW397 := n2_; have GE397 := n3_; clear n0_ n1_ n2_ n3_; clear hb hbox hg) | ((with_reducible refine gate_dst (N := 3) rfl ?_); refine box_event ?hg (N := 3) ?hd (cs := #[.bool a1_0, .slice A1_1 l1_1.length c1_1, .slice A1_2 l1_2.length c1_2]) (t := 52) ?hr ?_; (case hd => rfl); (case hg => rfl); (case hr => first | (go_simp; done) | (go_simp; rfl)); intro gb398 hg w14 hbox hb; have n0_ := Aside0.mk (blk_below (g := gb397) (o := .cells #[.bool a0_0, .slice A0_1 l0_1.length c0_1, .slice A0_2 l0_2.length c0_2] 52 (0, 0)) (by (with_reducible repeat (first | refine blk_drewN ?_ _ | refine blk_drew ?_ | refine blk_alloc ?_ _)); exact BK397.out) hb); have n1_ := Aside0.mk (below_step (by repeat (first | (with_reducible first | exact HB.out | apply below_alloc | apply pw_below_drewN | apply below_drew1 | refine below_set ?_ GE397.out) | exact HB.out)) hb); have n2_ := Aside0.mk (hbox); have n3_ := Aside0.mk ((by rw [hg]; exact (below_size (by repeat (first | (with_reducible first | exact HB.out | apply below_alloc | apply pw_below_drewN | apply below_drew1 | refine below_set ?_ GE397.out) | exact HB.out))) : w.heap.size ≤ gb398)); have n4_ := Aside0.mk ((by rw [hg]; exact (below_size (by repeat (first | (with_reducible first | exact HB.out | apply below_alloc | apply pw_below_drewN | apply below_drew1 | refine below_set ?_ GE397.out) | exact HB.out))) : w.heap.size ≤ gb398)); have n5_ := Aside0.mk ((by rw [hg]; exact Nat.ne_of_lt (blk_lt (g := gb397) (o := .cells #[.bool a0_0, .slice A0_1 l0_1.length c0_1, .slice A0_2 l0_2.length c0_2] 52 (0, 0)) (by (with_reducible repeat (first | refine blk_drewN ?_ _ | refine blk_drew ?_ | refine blk_alloc ?_ _)); exact BK397.out)) : gb397 ≠ gb398)); have n6_ := Aside0.mk ((by rw [hg]; exact Nat.ne_of_gt (blk_lt (g := gb397) (o := .cells #[.bool a0_0, .slice A0_1 l0_1.length c0_1, .slice A0_2 l0_2.length c0_2] 52 (0, 0)) (by (with_reducible repeat (first | refine blk_drewN ?_ _ | refine blk_drew ?_ | refine blk_alloc ?_ _)); exact BK397.out)) : gb398 ≠ gb397)); clear BK397; clear HB; have BK397 := n0_; have HB := n1_; have BK398 := n2_; have GW398 := n3_; have GE398 := n4_; have NB397_398 := n5_; have NB398_397 := n6_; clear n0_ n1_ n2_ n3_ n4_ n5_ n6_; clear hb hbox hg; have hnb15 := NB397_398.out; have hnc15 := NB398_397.out; have hcz16_0 : w14.cell? ⟨gb397, 0, none⟩ = some (.bool a0_0) := (blk_cell BK397.out 0).trans rfl; have hcz16_1 : w14.cell? ⟨gb397, 1, none⟩ = some (.slice A0_1 l0_1.length c0_1) := (blk_cell BK397.out 1).trans rfl; have hcz16_2 : w14.cell? ⟨gb397, 2, none⟩ = some (.slice A0_2 l0_2.length c0_2) := (blk_cell BK397.out 2).trans rfl; have hfz16_0 := blk_frozen BK397.out 0; have hfz16_1 := blk_frozen BK397.out 1; have hfz16_2 := blk_frozen BK397.out 2; have hcz17_0 : w14.cell? ⟨gb398, 0, none⟩ = some (.bool a1_0) := (blk_cell BK398.out 0).trans rfl; have hcz17_1 : w14.cell? ⟨gb398, 1, none⟩ = some (.slice A1_1 l1_1.length c1_1) := (blk_cell BK398.out 1).trans rfl; have hcz17_2 : w14.cell? ⟨gb398, 2, none⟩ = some (.slice A1_2 l1_2.length c1_2) := (blk_cell BK398.out 2).trans rfl; have hfz17_0 := blk_frozen BK398.out 0; have hfz17_1 := blk_frozen BK398.out 1; have hfz17_2 := blk_frozen BK398.out 2) | ((with_reducible refine gate_callee (f := 36) rfl ?_); refine goesL_ (some 14) rfl rfl Try.func36 (by kernel_rfl) rfl #[.slice A0_1 l0_1.length c0_1, .slice A1_1 l1_1.length c1_1] rfl (by (try simp only [List.map_toArray, List.map_cons, List.map_nil]); first | done | rfl | (simp only [List.length_drop, List.length_take]; rfl)) ?_; (with_reducible refine (laws_eqIntS.calls k _ _ l0_1 _ _ l1_1 true _ ?side1 ?side2 ?side3 ?side4 A9.out).mono ?_); (case side1 => repeat (first | exact (Kd.C_below HR0_1.out HB.out) | (with_reducible refine Kd.C_alloc ?_ _) | (with_reducible refine Kd.C_drewN ?_ _) | (with_reducible refine Kd.C_drew ?_))); (case side2 => exact HC0_1.out); (case side3 => repeat (first | exact (Kd.C_below HR1_1.out HB.out) | (with_reducible refine Kd.C_alloc ?_ _) | (with_reducible refine Kd.C_drewN ?_ _) | (with_reducible refine Kd.C_drew ?_))); (case side4 => exact HC1_1.out); rintro e w' ⟨rfl, ⟨nd, rfl⟩⟩; refine ⟨_, rfl, ?_⟩) | ((with_reducible refine gate_callee (f := 36) rfl ?_); refine goesL_ (some 20) rfl rfl Try.func36 (by kernel_rfl) rfl #[.slice A0_2 l0_2.length c0_2, .slice A1_2 l1_2.length c1_2] rfl (by (try simp only [List.map_toArray, List.map_cons, List.map_nil]); first | done | rfl | (simp only [List.length_drop, List.length_take]; rfl)) ?_; (with_reducible refine (laws_eqIntS.calls k _ _ l0_2 _ _ l1_2 true _ ?side1 ?side2 ?side3 ?side4 A11.out).mono ?_); (case side1 => repeat (first | exact (Kd.C_below HR0_2.out (by repeat (first | (with_reducible first | exact HB.out | apply below_alloc | apply pw_below_drewN | apply below_drew1 | refine below_set ?_ GE397.out | refine below_set ?_ GE398.out) | exact HB.out))) | (with_reducible refine Kd.C_alloc ?_ _) | (with_reducible refine Kd.C_drewN ?_ _) | (with_reducible refine Kd.C_drew ?_))); (case side2 => exact HC0_2.out); (case side3 => repeat (first | exact (Kd.C_below HR1_2.out (by repeat (first | (with_reducible first | exact HB.out | apply below_alloc | apply pw_below_drewN | apply below_drew1 | refine below_set ?_ GE397.out | refine below_set ?_ GE398.out) | exact HB.out))) | (with_reducible refine Kd.C_alloc ?_ _) | (with_reducible refine Kd.C_drewN ?_ _) | (with_reducible refine Kd.C_drew ?_))); (case side4 => exact HC1_2.out); rintro e w' ⟨rfl, ⟨nd, rfl⟩⟩; refine ⟨_, rfl, ?_⟩))
        go_ret
        exact ⟨by first | rfl | (simp [errW_none, errW_some] <;> rfl) | (simp [*, errW_none, errW_some] <;> rfl), by repeat (first | (with_reducible first | exact HB.out | apply below_alloc | apply pw_below_drewN | apply below_drew1 | refine below_set ?_ GE397.out | refine below_set ?_ GE398.out) | exact HB.out)⟩
      · replace c12 := Bool.eq_false_iff.mpr c12
        subst c12
        have H1 : (some false) = some r := by rw [if_neg (show ¬ (false = true) by decide)] at H; exact H
        clear H
        have H := H1
        clear H1
        obtain rfl := Option.some.inj H
        go_enter Try.func49, Try.ntmps49
        go_wp2_with (first | ((with_reducible refine gate_dst (N := 2) rfl ?_); refine box_event ?hg (N := 2) ?hd (cs := #[.bool a0_0, .slice A0_1 l0_1.length c0_1, .slice A0_2 l0_2.length c0_2]) (t := 52) ?hr ?_; (case hd => rfl); (case hg => rfl); (case hr => first | (go_simp; done) | (go_simp; rfl)); intro gb397 hg w18 hbox hb; have n0_ := Aside0.mk (below_step (by repeat (first | (with_reducible first | exact HB.out | apply below_alloc | apply pw_below_drewN | apply below_drew1) | exact HB.out)) hb); have n1_ := Aside0.mk (hbox); have n2_ := Aside0.mk ((by rw [hg]; exact (below_size (by repeat (first | (with_reducible first | exact HB.out | apply below_alloc | apply pw_below_drewN | apply below_drew1) | exact HB.out))) : w.heap.size ≤ gb397)); have n3_ := Aside0.mk ((by rw [hg]; exact (below_size (by repeat (first | (with_reducible first | exact HB.out | apply below_alloc | apply pw_below_drewN | apply below_drew1) | exact HB.out))) : w.heap.size ≤ gb397)); clear HB; have HB := n0_; have BK397 := n1_; have GW397 := n2_; have GE397 := n3_; clear n0_ n1_ n2_ n3_; clear hb hbox hg) | ((with_reducible refine gate_dst (N := 3) rfl ?_); refine box_event ?hg (N := 3) ?hd (cs := #[.bool a1_0, .slice A1_1 l1_1.length c1_1, .slice A1_2 l1_2.length c1_2]) (t := 52) ?hr ?_; (case hd => rfl); (case hg => rfl); (case hr => first | (go_simp; done) | (go_simp; rfl)); intro gb398 hg w19 hbox hb; have n0_ := Aside0.mk (blk_below (g := gb397) (o := .cells #[.bool a0_0, .slice A0_1 l0_1.length c0_1, .slice A0_2 l0_2.length c0_2] 52 (0, 0)) (by (with_reducible repeat (first | refine blk_drewN ?_ _ | refine blk_drew ?_ | refine blk_alloc ?_ _)); exact BK397.out) hb); have n1_ := Aside0.mk (below_step (by repeat (first | (with_reducible first | exact HB.out | apply below_alloc | apply pw_below_drewN | apply below_drew1 | refine below_set ?_ GE397.out) | exact HB.out)) hb); have n2_ := Aside0.mk (hbox); have n3_ := Aside0.mk ((by rw [hg]; exact (below_size (by repeat (first | (with_reducible first | exact HB.out | apply below_alloc | apply pw_below_drewN | apply below_drew1 | refine below_set ?_ GE397.out) | exact HB.out))) : w.heap.size ≤ gb398)); have n4_ := Aside0.mk ((by rw [hg]; exact (below_size (by repeat (first | (with_reducible first | exact HB.out | apply below_alloc | apply pw_below_drewN | apply below_drew1 | refine below_set ?_ GE397.out) | exact HB.out))) : w.heap.size ≤ gb398)); have n5_ := Aside0.mk ((by rw [hg]; exact Nat.ne_of_lt (blk_lt (g := gb397) (o := .cells #[.bool a0_0, .slice A0_1 l0_1.length c0_1, .slice A0_2 l0_2.length c0_2] 52 (0, 0)) (by (with_reducible repeat (first | refine blk_drewN ?_ _ | refine blk_drew ?_ | refine blk_alloc ?_ _)); exact BK397.out)) : gb397 ≠ gb398)); have n6_ := Aside0.mk ((by rw [hg]; exact Nat.ne_of_gt (blk_lt (g := gb397) (o := .cells #[.bool a0_0, .slice A0_1 l0_1.length c0_1, .slice A0_2 l0_2.length c0_2] 52 (0, 0)) (by (with_reducible repeat (first | refine blk_drewN ?_ _ | refine blk_drew ?_ | refine blk_alloc ?_ _)); exact BK397.out)) : gb398 ≠ gb397)); clear BK397; clear HB; have BK397 := n0_; have HB := n1_; have BK398 := n2_; have GW398 := n3_; have GE398 := n4_; have NB397_398 := n5_; have NB398_397 := n6_; clear n0_ n1_ n2_ n3_ n4_ n5_ n6_; clear hb hbox hg; have hnb20 := NB397_398.out; have hnc20 := NB398_397.out; have hcz21_0 : w19.cell? ⟨gb397, 0, none⟩ = some (.bool a0_0) := (blk_cell BK397.out 0).trans rfl; have hcz21_1 : w19.cell? ⟨gb397, 1, none⟩ = some (.slice A0_1 l0_1.length c0_1) := (blk_cell BK397.out 1).trans rfl; have hcz21_2 : w19.cell? ⟨gb397, 2, none⟩ = some (.slice A0_2 l0_2.length c0_2) := (blk_cell BK397.out 2).trans rfl; have hfz21_0 := blk_frozen BK397.out 0; have hfz21_1 := blk_frozen BK397.out 1; have hfz21_2 := blk_frozen BK397.out 2; have hcz22_0 : w19.cell? ⟨gb398, 0, none⟩ = some (.bool a1_0) := (blk_cell BK398.out 0).trans rfl; have hcz22_1 : w19.cell? ⟨gb398, 1, none⟩ = some (.slice A1_1 l1_1.length c1_1) := (blk_cell BK398.out 1).trans rfl; have hcz22_2 : w19.cell? ⟨gb398, 2, none⟩ = some (.slice A1_2 l1_2.length c1_2) := (blk_cell BK398.out 2).trans rfl; have hfz22_0 := blk_frozen BK398.out 0; have hfz22_1 := blk_frozen BK398.out 1; have hfz22_2 := blk_frozen BK398.out 2) | ((with_reducible refine gate_callee (f := 36) rfl ?_); refine goesL_ (some 14) rfl rfl Try.func36 (by kernel_rfl) rfl #[.slice A0_1 l0_1.length c0_1, .slice A1_1 l1_1.length c1_1] rfl (by (try simp only [List.map_toArray, List.map_cons, List.map_nil]); first | done | rfl | (simp only [List.length_drop, List.length_take]; rfl)) ?_; (with_reducible refine (laws_eqIntS.calls k _ _ l0_1 _ _ l1_1 true _ ?side1 ?side2 ?side3 ?side4 A9.out).mono ?_); (case side1 => repeat (first | exact (Kd.C_below HR0_1.out HB.out) | (with_reducible refine Kd.C_alloc ?_ _) | (with_reducible refine Kd.C_drewN ?_ _) | (with_reducible refine Kd.C_drew ?_))); (case side2 => exact HC0_1.out); (case side3 => repeat (first | exact (Kd.C_below HR1_1.out HB.out) | (with_reducible refine Kd.C_alloc ?_ _) | (with_reducible refine Kd.C_drewN ?_ _) | (with_reducible refine Kd.C_drew ?_))); (case side4 => exact HC1_1.out); rintro e w' ⟨rfl, ⟨nd, rfl⟩⟩; refine ⟨_, rfl, ?_⟩) | ((with_reducible refine gate_callee (f := 36) rfl ?_); refine goesL_ (some 20) rfl rfl Try.func36 (by kernel_rfl) rfl #[.slice A0_2 l0_2.length c0_2, .slice A1_2 l1_2.length c1_2] rfl (by (try simp only [List.map_toArray, List.map_cons, List.map_nil]); first | done | rfl | (simp only [List.length_drop, List.length_take]; rfl)) ?_; (with_reducible refine (laws_eqIntS.calls k _ _ l0_2 _ _ l1_2 false _ ?side1 ?side2 ?side3 ?side4 A11.out).mono ?_); (case side1 => repeat (first | exact (Kd.C_below HR0_2.out (by repeat (first | (with_reducible first | exact HB.out | apply below_alloc | apply pw_below_drewN | apply below_drew1 | refine below_set ?_ GE397.out | refine below_set ?_ GE398.out) | exact HB.out))) | (with_reducible refine Kd.C_alloc ?_ _) | (with_reducible refine Kd.C_drewN ?_ _) | (with_reducible refine Kd.C_drew ?_))); (case side2 => exact HC0_2.out); (case side3 => repeat (first | exact (Kd.C_below HR1_2.out (by repeat (first | (with_reducible first | exact HB.out | apply below_alloc | apply pw_below_drewN | apply below_drew1 | refine below_set ?_ GE397.out | refine below_set ?_ GE398.out) | exact HB.out))) | (with_reducible refine Kd.C_alloc ?_ _) | (with_reducible refine Kd.C_drewN ?_ _) | (with_reducible refine Kd.C_drew ?_))); (case side4 => exact HC1_2.out); rintro e w' ⟨rfl, ⟨nd, rfl⟩⟩; refine ⟨_, rfl, ?_⟩))
        go_ret
        exact ⟨by first | rfl | (simp [errW_none, errW_some] <;> rfl) | (simp [*, errW_none, errW_some] <;> rfl), by repeat (first | (with_reducible first | exact HB.out | apply below_alloc | apply pw_below_drewN | apply below_drew1 | refine below_set ?_ GE397.out | refine below_set ?_ GE398.out) | exact HB.out)⟩
    · replace c10 := Bool.eq_false_iff.mpr c10
      subst c10
      have H1 : (some false) = some r := by rw [if_neg (show ¬ (false = true) by decide)] at H; exact H
      clear H
      have H := H1
      clear H1
      obtain rfl := Option.some.inj H
      go_enter Try.func49, Try.ntmps49
      go_wp2_with (first | ((with_reducible refine gate_dst (N := 2) rfl ?_); refine box_event ?hg (N := 2) ?hd (cs := #[.bool a0_0, .slice A0_1 l0_1.length c0_1, .slice A0_2 l0_2.length c0_2]) (t := 52) ?hr ?_; (case hd => rfl); (case hg => rfl); (case hr => first | (go_simp; done) | (go_simp; rfl)); intro gb397 hg w23 hbox hb; have n0_ := Aside0.mk (below_step (by repeat (first | (with_reducible first | exact HB.out | apply below_alloc | apply pw_below_drewN | apply below_drew1) | exact HB.out)) hb); have n1_ := Aside0.mk (hbox); have n2_ := Aside0.mk ((by rw [hg]; exact (below_size (by repeat (first | (with_reducible first | exact HB.out | apply below_alloc | apply pw_below_drewN | apply below_drew1) | exact HB.out))) : w.heap.size ≤ gb397)); have n3_ := Aside0.mk ((by rw [hg]; exact (below_size (by repeat (first | (with_reducible first | exact HB.out | apply below_alloc | apply pw_below_drewN | apply below_drew1) | exact HB.out))) : w.heap.size ≤ gb397)); clear HB; have HB := n0_; have BK397 := n1_; have GW397 := n2_; have GE397 := n3_; clear n0_ n1_ n2_ n3_; clear hb hbox hg) | ((with_reducible refine gate_dst (N := 3) rfl ?_); refine box_event ?hg (N := 3) ?hd (cs := #[.bool a1_0, .slice A1_1 l1_1.length c1_1, .slice A1_2 l1_2.length c1_2]) (t := 52) ?hr ?_; (case hd => rfl); (case hg => rfl); (case hr => first | (go_simp; done) | (go_simp; rfl)); intro gb398 hg w24 hbox hb; have n0_ := Aside0.mk (blk_below (g := gb397) (o := .cells #[.bool a0_0, .slice A0_1 l0_1.length c0_1, .slice A0_2 l0_2.length c0_2] 52 (0, 0)) (by (with_reducible repeat (first | refine blk_drewN ?_ _ | refine blk_drew ?_ | refine blk_alloc ?_ _)); exact BK397.out) hb); have n1_ := Aside0.mk (below_step (by repeat (first | (with_reducible first | exact HB.out | apply below_alloc | apply pw_below_drewN | apply below_drew1 | refine below_set ?_ GE397.out) | exact HB.out)) hb); have n2_ := Aside0.mk (hbox); have n3_ := Aside0.mk ((by rw [hg]; exact (below_size (by repeat (first | (with_reducible first | exact HB.out | apply below_alloc | apply pw_below_drewN | apply below_drew1 | refine below_set ?_ GE397.out) | exact HB.out))) : w.heap.size ≤ gb398)); have n4_ := Aside0.mk ((by rw [hg]; exact (below_size (by repeat (first | (with_reducible first | exact HB.out | apply below_alloc | apply pw_below_drewN | apply below_drew1 | refine below_set ?_ GE397.out) | exact HB.out))) : w.heap.size ≤ gb398)); have n5_ := Aside0.mk ((by rw [hg]; exact Nat.ne_of_lt (blk_lt (g := gb397) (o := .cells #[.bool a0_0, .slice A0_1 l0_1.length c0_1, .slice A0_2 l0_2.length c0_2] 52 (0, 0)) (by (with_reducible repeat (first | refine blk_drewN ?_ _ | refine blk_drew ?_ | refine blk_alloc ?_ _)); exact BK397.out)) : gb397 ≠ gb398)); have n6_ := Aside0.mk ((by rw [hg]; exact Nat.ne_of_gt (blk_lt (g := gb397) (o := .cells #[.bool a0_0, .slice A0_1 l0_1.length c0_1, .slice A0_2 l0_2.length c0_2] 52 (0, 0)) (by (with_reducible repeat (first | refine blk_drewN ?_ _ | refine blk_drew ?_ | refine blk_alloc ?_ _)); exact BK397.out)) : gb398 ≠ gb397)); clear BK397; clear HB; have BK397 := n0_; have HB := n1_; have BK398 := n2_; have GW398 := n3_; have GE398 := n4_; have NB397_398 := n5_; have NB398_397 := n6_; clear n0_ n1_ n2_ n3_ n4_ n5_ n6_; clear hb hbox hg; have hnb25 := NB397_398.out; have hnc25 := NB398_397.out; have hcz26_0 : w24.cell? ⟨gb397, 0, none⟩ = some (.bool a0_0) := (blk_cell BK397.out 0).trans rfl; have hcz26_1 : w24.cell? ⟨gb397, 1, none⟩ = some (.slice A0_1 l0_1.length c0_1) := (blk_cell BK397.out 1).trans rfl; have hcz26_2 : w24.cell? ⟨gb397, 2, none⟩ = some (.slice A0_2 l0_2.length c0_2) := (blk_cell BK397.out 2).trans rfl; have hfz26_0 := blk_frozen BK397.out 0; have hfz26_1 := blk_frozen BK397.out 1; have hfz26_2 := blk_frozen BK397.out 2; have hcz27_0 : w24.cell? ⟨gb398, 0, none⟩ = some (.bool a1_0) := (blk_cell BK398.out 0).trans rfl; have hcz27_1 : w24.cell? ⟨gb398, 1, none⟩ = some (.slice A1_1 l1_1.length c1_1) := (blk_cell BK398.out 1).trans rfl; have hcz27_2 : w24.cell? ⟨gb398, 2, none⟩ = some (.slice A1_2 l1_2.length c1_2) := (blk_cell BK398.out 2).trans rfl; have hfz27_0 := blk_frozen BK398.out 0; have hfz27_1 := blk_frozen BK398.out 1; have hfz27_2 := blk_frozen BK398.out 2) | ((with_reducible refine gate_callee (f := 36) rfl ?_); refine goesL_ (some 14) rfl rfl Try.func36 (by kernel_rfl) rfl #[.slice A0_1 l0_1.length c0_1, .slice A1_1 l1_1.length c1_1] rfl (by (try simp only [List.map_toArray, List.map_cons, List.map_nil]); first | done | rfl | (simp only [List.length_drop, List.length_take]; rfl)) ?_; (with_reducible refine (laws_eqIntS.calls k _ _ l0_1 _ _ l1_1 false _ ?side1 ?side2 ?side3 ?side4 A9.out).mono ?_); (case side1 => repeat (first | exact (Kd.C_below HR0_1.out HB.out) | (with_reducible refine Kd.C_alloc ?_ _) | (with_reducible refine Kd.C_drewN ?_ _) | (with_reducible refine Kd.C_drew ?_))); (case side2 => exact HC0_1.out); (case side3 => repeat (first | exact (Kd.C_below HR1_1.out HB.out) | (with_reducible refine Kd.C_alloc ?_ _) | (with_reducible refine Kd.C_drewN ?_ _) | (with_reducible refine Kd.C_drew ?_))); (case side4 => exact HC1_1.out); rintro e w' ⟨rfl, ⟨nd, rfl⟩⟩; refine ⟨_, rfl, ?_⟩))
      go_ret
      exact ⟨by first | rfl | (simp [errW_none, errW_some] <;> rfl) | (simp [*, errW_none, errW_some] <;> rfl), by repeat (first | (with_reducible first | exact HB.out | apply below_alloc | apply pw_below_drewN | apply below_drew1 | refine below_set ?_ GE397.out | refine below_set ?_ GE398.out) | exact HB.out)⟩

end Go.Proofs.Ytgmjolngnhdafaa.P

end
section
namespace Go.Proofs.Ytgmjolngnhdafaa.P
open Go.RowKit Go.Proofs.YtgmjolngnhdafaaW.PrintWords Go.Proofs.YtgmjolngnhdafaaW.PrintLast Go.Proofs.YtgmjolngnhdafaaW.PrintMore
attribute [local go_sem] max2_int min2_int max_two min_two max_three min_three max_four min_four
set_option linter.unusedVariables false
set_option linter.unusedSimpArgs false

set_option maxHeartbeats 8000000 in
set_option maxRecDepth 100000 in
theorem spec_l6In.calls (a0 : Int) (a1 : Int) (a2 : Int) (r : Bool) (w : World) (h : spec_l6In.f a0 a1 a2 = some r) :
    Calls Try.prog 56 #[.int .i64 a0, .int .i64 a1, .int .i64 a2] w fun e w' => e = .returned (.bool r) ∧ Drawn0 w w' := by
  have H : (if a0 ≥ a1 then (some (decide (a0 ≤ a2))) else (some false)) = some r := h
  clear h
  by_cases c4 : a0 ≥ a1
  · rw [if_pos c4] at H
    have c4b0 : decide (a1 ≤ a0) = true := decide_eq_true c4
    clear c4
    obtain rfl := Option.some.inj H
    go_enter Try.func56, Try.ntmps56
    go_wp2
    go_ret
    exact ⟨by first | rfl | (simp; done) | (simp [*]; done), by repeat (first | exact Drawn0.refl _ | apply Drawn0.step)⟩
  · rw [if_neg c4] at H
    have c4b0 : decide (a1 ≤ a0) = false := decide_eq_false c4
    clear c4
    obtain rfl := Option.some.inj H
    go_enter Try.func56, Try.ntmps56
    go_wp2
    go_ret
    exact ⟨by first | rfl | (simp; done) | (simp [*]; done), by repeat (first | exact Drawn0.refl _ | apply Drawn0.step)⟩

end Go.Proofs.Ytgmjolngnhdafaa.P

end
section
namespace Go.Proofs.Ytgmjolngnhdafaa.P
open Go.RowKit Go.Proofs.YtgmjolngnhdafaaW.PrintWords Go.Proofs.YtgmjolngnhdafaaW.PrintLast Go.Proofs.YtgmjolngnhdafaaW.PrintMore
attribute [local go_sem] max2_int min2_int max_two min_two max_three min_three max_four min_four
set_option linter.unusedVariables false
set_option linter.unusedSimpArgs false

set_option maxHeartbeats 8000000 in
set_option maxRecDepth 100000 in
theorem spec_l2Field.calls (A0 : Option Addr) (c0 : Nat) (l0 : List (S38)) (a1 : Int) (r : Bool) (w : World) (hr0 : Kd.C k38 w A0 l0.length l0) (hc0 : l0.length ≤ c0) (h : spec_l2Field.f l0 a1 = some r) :
    Calls Try.prog 61 #[.slice A0 l0.length c0, .int .i64 a1] w fun e w' => e = .returned (.bool r) ∧ Drawn0 w w' := by
  have HR0 := Aside0.mk hr0
  have HC0 := Aside0.mk hc0
  clear hr0 hc0
  have H : (if a1 = 1 then (some true) else (if a1 = 3 then (some true) else (if a1 = 4 then (some true) else ((spec_l6In.f a1 8 (wrap64 ((wrap64 (8 + (l0.length : Int))) - 1))).bind fun t105 => (some t105))))) = some r := h
  clear h
  by_cases c3 : a1 = 1
  · rw [if_pos c3] at H
    have c3b0 : (a1 == 1) = true := beq_iff_eq.mpr c3
    have c3b1 : (a1 != 1) = false := bne_eq_false_iff_eq.mpr c3
    clear c3
    obtain rfl := Option.some.inj H
    go_enter Try.func61, Try.ntmps61
    go_wp2
    go_ret
    exact ⟨by first | rfl | (simp; done) | (simp [*]; done), by repeat (first | exact Drawn0.refl _ | apply Drawn0.step)⟩
  · rw [if_neg c3] at H
    have c3b0 : (a1 == 1) = false := beq_eq_false_iff_ne.mpr c3
    have c3b1 : (a1 != 1) = true := bne_iff_ne.mpr c3
    by_cases c4 : a1 = 3
    · rw [if_pos c4] at H
      have c4b0 : (a1 == 3) = true := beq_iff_eq.mpr c4
      have c4b1 : (a1 != 3) = false := bne_eq_false_iff_eq.mpr c4
      clear c4
      obtain rfl := Option.some.inj H
      go_enter Try.func61, Try.ntmps61
      go_wp2
      go_ret
      exact ⟨by first | rfl | (simp; done) | (simp [*]; done), by repeat (first | exact Drawn0.refl _ | apply Drawn0.step)⟩
    · rw [if_neg c4] at H
      have c4b0 : (a1 == 3) = false := beq_eq_false_iff_ne.mpr c4
      have c4b1 : (a1 != 3) = true := bne_iff_ne.mpr c4
      by_cases c5 : a1 = 4
      · rw [if_pos c5] at H
        have c5b0 : (a1 == 4) = true := beq_iff_eq.mpr c5
        have c5b1 : (a1 != 4) = false := bne_eq_false_iff_eq.mpr c5
        clear c5
        obtain rfl := Option.some.inj H
        go_enter Try.func61, Try.ntmps61
        go_wp2
        go_ret
        exact ⟨by first | rfl | (simp; done) | (simp [*]; done), by repeat (first | exact Drawn0.refl _ | apply Drawn0.step)⟩
      · rw [if_neg c5] at H
        have c5b0 : (a1 == 4) = false := beq_eq_false_iff_ne.mpr c5
        have c5b1 : (a1 != 4) = true := bne_iff_ne.mpr c5
        replace H := Option.bind_eq_some_iff.mp H
        obtain ⟨t105, A60, H⟩ := H
        replace H : (some t105) = some r := H
        have A6 := Aside0.mk A60
        clear A60
        obtain rfl := Option.some.inj H
        go_enter Try.func61, Try.ntmps61
        go_wp2_with (first | (go_at_call 56; (with_reducible refine (spec_l6In.calls a1 8 (wrap64 ((wrap64 (8 + (l0.length : Int))) - 1)) t105 _ A6.out).mono ?_); rintro e w' ⟨rfl, ⟨nd, rfl⟩⟩))
        go_ret
        exact ⟨by first | rfl | (simp; done) | (simp [*]; done), by repeat (first | exact Drawn0.refl _ | apply Drawn0.step)⟩

end Go.Proofs.Ytgmjolngnhdafaa.P

end
section
namespace Go.Proofs.Ytgmjolngnhdafaa.P
open Go.RowKit Go.Proofs.YtgmjolngnhdafaaW.PrintWords Go.Proofs.YtgmjolngnhdafaaW.PrintLast Go.Proofs.YtgmjolngnhdafaaW.PrintMore
attribute [local go_sem] max2_int min2_int max_two min_two max_three min_three max_four min_four
set_option linter.unusedVariables false
set_option linter.unusedSimpArgs false

set_option maxHeartbeats 8000000 in
set_option maxRecDepth 100000 in
theorem spec_l2Class.calls (k : Nat) (A0 : Option Addr) (c0 : Nat) (l0 : List (S38)) (a1 : Int) (r : Bool) (w : World) (hr0 : Kd.C k38 w A0 l0.length l0) (hc0 : l0.length ≤ c0) (h : spec_l2Class.f k l0 a1 = some r) :
    Calls Try.prog 57 #[.slice A0 l0.length c0, .int .i64 a1] w fun e w' => e = .returned (.bool r) ∧ Below w.heap.size w w' := by
  have hu38 := Try.underlying38
  have HR0 := Aside0.mk hr0
  have HC0 := Aside0.mk hc0
  clear hr0 hc0
  have HB := Aside0.mk (Below.refl w.heap.size w)
  have H : (if 0 ≤ a1 then (if a1 < (l0.length : Int) then (spec_l2Class.l0 k l0 a1 0 ((rd_T38 l0 a1).f0) ((rd_T38 l0 a1).f1)) else (none)) else (none)) = some r := h
  clear h
  by_cases c3 : 0 ≤ a1
  · rw [if_pos c3] at H
    have c3b0 : decide (0 ≤ a1) = true := decide_eq_true c3
    clear c3
    by_cases c4 : a1 < (l0.length : Int)
    · rw [if_pos c4] at H
      have c4b0 : decide (a1 < (l0.length : Int)) = true := decide_eq_true c4
      clear c4
      have H' := Aside0.mk H
      clear H
      have p106 : 0 ≤ (a1 : Int) := of_decide_eq_true (by first | (with_reducible assumption) | assumption)
      have q106 : a1 < (l0.length : Int) := of_decide_eq_true (by first | (with_reducible assumption) | assumption)
      obtain ⟨ad106, A106_1, c106_1, e106, hx106_0, hx106_1, hl106_1, hi106_1⟩ := at_T38 HR0.out a1 p106 q106
      cases e106
      have HR106_1 := Aside0.mk hi106_1
      have HC106_1 := Aside0.mk hl106_1
      clear hi106_1 hl106_1
      replace p106 := eq_true p106
      replace q106 := eq_true q106
      go_enter Try.func57, Try.ntmps57
      go_wp2_with (first | ((with_reducible refine gate_dst (N := 5) rfl ?_); (try (refine gate_guard (by rfl) ?_; dsimp only)); refine box_event ?hg (N := 5) ?hd (cs := #[.int .i64 0, .slice none 0 0]) (t := 38) ?hr ?_; (case hd => rfl); (case hg => rfl); (case hr => first | (go_simp; done) | (go_simp; rfl)); intro gb107 hg w5 hbox hb; have n0_ := Aside0.mk (below_step (by repeat (first | (with_reducible first | exact HB.out | apply below_alloc | apply pw_below_drewN | apply below_drew1) | exact HB.out)) hb); have n1_ := Aside0.mk (hbox); have n2_ := Aside0.mk ((by rw [hg]; exact (below_size (by repeat (first | (with_reducible first | exact HB.out | apply below_alloc | apply pw_below_drewN | apply below_drew1) | exact HB.out))) : w.heap.size ≤ gb107)); have n3_ := Aside0.mk ((by rw [hg]; exact (below_size (by repeat (first | (with_reducible first | exact HB.out | apply below_alloc | apply pw_below_drewN | apply below_drew1) | exact HB.out))) : w.heap.size ≤ gb107)); clear HB; have HB := n0_; have BK107 := n1_; have GW107 := n2_; have GE107 := n3_; clear n0_ n1_ n2_ n3_; clear hb hbox hg; have hcz6_0 : w5.cell? ⟨gb107, 0, none⟩ = some (.int .i64 0) := (blk_cell BK107.out 0).trans rfl; have hcz6_1 : w5.cell? ⟨gb107, 1, none⟩ = some (.slice none 0 0) := (blk_cell BK107.out 1).trans rfl; have hfz6_0 := blk_frozen BK107.out 0; have hfz6_1 := blk_frozen BK107.out 1))
      go_loopg [6] k (fun kq v6 w' => ∃ (x6_1 : Int), v6 = .int .i64 x6_1 ∧ Aside0 (spec_l2Class.l0 kq l0 a1 x6_1 ((rd_T38 l0 a1).f0) ((rd_T38 l0 a1).f1) = some r) ∧ Aside0 (kq ≤ k) ∧ Aside0 (w'.heap[gb107]? = some (.cells #[.int .i64 ((rd_T38 l0 a1).f0), (.slice A106_1 ((rd_T38 l0 a1).f1).length c106_1)] 38 (0, 0))) ∧ Aside0 (Below w.heap.size w w'))
      case atStart => exact ⟨(0), (by first | rfl | (simp; done) | (simp [*]; done)), H', ⟨Nat.le_refl _⟩, ⟨by (with_reducible repeat (first | refine blk_drewN ?_ _ | refine blk_drew ?_ | refine blk_alloc ?_ _)); refine blk_put (cs := #[.int .i64 ((rd_T38 l0 a1).f0), .slice none 0 0]) ?_ 1 _ rfl; (with_reducible repeat (first | refine blk_drewN ?_ _ | refine blk_drew ?_ | refine blk_alloc ?_ _)); refine blk_put (cs := #[.int .i64 0, .slice none 0 0]) ?_ 0 _ rfl; (with_reducible repeat (first | refine blk_drewN ?_ _ | refine blk_drew ?_ | refine blk_alloc ?_ _)); exact BK107.out⟩, ⟨by repeat (first | (with_reducible first | exact HB.out | apply below_alloc | apply pw_below_drewN | apply below_drew1 | refine below_set ?_ GE107.out) | exact HB.out)⟩⟩
      case round =>
        clear H'
        try clear c1
        try clear p1
        try clear q1
        try clear hx1
        try clear p2
        try clear c3
        try clear c3b0
        try clear c4
        try clear c4b0
        try clear c5
        try clear hcz6_0
        try clear hcz6_1
        try clear hfz6_0
        try clear hfz6_1
        try clear hx106_0
        try clear hx106_1
        try clear p106
        try clear q106
        obtain ⟨x6_1, rfl, HA, HK1, BK107, HB⟩ := hrel
        cases gk with
        | zero => exact absurd HA.out (by simp [spec_l2Class.l0])
        | succ k1 =>
          have H := HA.out
          clear HA
          simp only [spec_l2Class.l0] at H
          by_cases c7 : x6_1 < (((rd_T38 l0 a1).f1).length : Int)
          · rw [if_pos c7] at H
            have c7b0 : decide (x6_1 < (((rd_T38 l0 a1).f1).length : Int)) = true := decide_eq_true c7
            clear c7
            by_cases c8 : 0 ≤ x6_1
            · rw [if_pos c8] at H
              have c8b0 : decide (0 ≤ x6_1) = true := decide_eq_true c8
              clear c8
              replace H := Option.bind_eq_some_iff.mp H
              obtain ⟨t109, A90, H⟩ := H
              replace H : (if t109 = true then (spec_l2Class.l0 k1 l0 a1 (wrap64 (x6_1 + 1)) ((rd_T38 l0 a1).f0) ((rd_T38 l0 a1).f1)) else (some false)) = some r := H
              have A9 := Aside0.mk A90
              clear A90
              by_cases c10 : t109 = true
              · subst c10
                have H1 : (spec_l2Class.l0 k1 l0 a1 (wrap64 (x6_1 + 1)) ((rd_T38 l0 a1).f0) ((rd_T38 l0 a1).f1)) = some r := by rw [if_pos rfl] at H; exact H
                clear H
                have H := H1
                clear H1
                have H' := Aside0.mk H
                clear H
                have hcz11_0 : wr.cell? ⟨gb107, 0, none⟩ = some (.int .i64 ((rd_T38 l0 a1).f0)) := (blk_cell BK107.out 0).trans rfl
                have hcz11_1 : wr.cell? ⟨gb107, 1, none⟩ = some (.slice A106_1 ((rd_T38 l0 a1).f1).length c106_1) := (blk_cell BK107.out 1).trans rfl
                have hfz11_0 := blk_frozen BK107.out 0
                have hfz11_1 := blk_frozen BK107.out 1
                have p108 : 0 ≤ (x6_1 : Int) := of_decide_eq_true (by first | (with_reducible assumption) | assumption)
                have q108 : x6_1 < (((rd_T38 l0 a1).f1).length : Int) := of_decide_eq_true (by first | (with_reducible assumption) | assumption)
                obtain ⟨ad108, e108, hx108_0⟩ := Kd.at_int HR106_1.out x6_1 p108 q108
                cases e108
                replace hx108_0 := (HB.out.cell (World.block_lt_of_cell? w _ hx108_0)).trans hx108_0
                replace p108 := eq_true p108
                replace q108 := eq_true q108
                go_wp2_with (first | ((with_reducible refine gate_callee (f := 61) rfl ?_); refine goesL_ (some 24) rfl rfl Try.func61 (by kernel_rfl) rfl #[.slice (some ad106) l0.length c0, .int .i64 (rd ((rd_T38 l0 a1).f1) x6_1)] rfl (by (try simp only [List.map_toArray, List.map_cons, List.map_nil]); first | done | rfl | (simp only [List.length_drop, List.length_take]; rfl)) ?_; (with_reducible refine (spec_l2Field.calls _ _ l0 (rd ((rd_T38 l0 a1).f1) x6_1) true _ ?side1 ?side2 A9.out).mono ?_); (case side1 => repeat (first | exact (Kd.C_below HR0.out HB.out) | (with_reducible refine Kd.C_alloc ?_ _) | (with_reducible refine Kd.C_drewN ?_ _) | (with_reducible refine Kd.C_drew ?_))); (case side2 => exact HC0.out); rintro e w' ⟨rfl, ⟨nd, rfl⟩⟩; refine ⟨_, rfl, ?_⟩))
                go_roundg k1
                case measure => have := HK1.out; omega
                case rel => exact ⟨(wrap64 (x6_1 + 1)), (by first | rfl | (simp; done) | (simp [*]; done)), H', ⟨by have := HK1.out; omega⟩, ⟨by (with_reducible repeat (first | refine blk_drewN ?_ _ | refine blk_drew ?_ | refine blk_alloc ?_ _)); exact BK107.out⟩, ⟨by repeat (first | (with_reducible first | exact HB.out | apply below_alloc | apply pw_below_drewN | apply below_drew1 | refine below_set ?_ GE107.out) | exact HB.out)⟩⟩
              · replace c10 := Bool.eq_false_iff.mpr c10
                subst c10
                have H1 : (some false) = some r := by rw [if_neg (show ¬ (false = true) by decide)] at H; exact H
                clear H
                have H := H1
                clear H1
                obtain rfl := Option.some.inj H
                have hcz12_0 : wr.cell? ⟨gb107, 0, none⟩ = some (.int .i64 ((rd_T38 l0 a1).f0)) := (blk_cell BK107.out 0).trans rfl
                have hcz12_1 : wr.cell? ⟨gb107, 1, none⟩ = some (.slice A106_1 ((rd_T38 l0 a1).f1).length c106_1) := (blk_cell BK107.out 1).trans rfl
                have hfz12_0 := blk_frozen BK107.out 0
                have hfz12_1 := blk_frozen BK107.out 1
                have p108 : 0 ≤ (x6_1 : Int) := of_decide_eq_true (by first | (with_reducible assumption) | assumption)
                have q108 : x6_1 < (((rd_T38 l0 a1).f1).length : Int) := of_decide_eq_true (by first | (with_reducible assumption) | assumption)
                obtain ⟨ad108, e108, hx108_0⟩ := Kd.at_int HR106_1.out x6_1 p108 q108
                cases e108
                replace hx108_0 := (HB.out.cell (World.block_lt_of_cell? w _ hx108_0)).trans hx108_0
                replace p108 := eq_true p108
                replace q108 := eq_true q108
                go_wp2_with (first | ((with_reducible refine gate_callee (f := 61) rfl ?_); refine goesL_ (some 24) rfl rfl Try.func61 (by kernel_rfl) rfl #[.slice (some ad106) l0.length c0, .int .i64 (rd ((rd_T38 l0 a1).f1) x6_1)] rfl (by (try simp only [List.map_toArray, List.map_cons, List.map_nil]); first | done | rfl | (simp only [List.length_drop, List.length_take]; rfl)) ?_; (with_reducible refine (spec_l2Field.calls _ _ l0 (rd ((rd_T38 l0 a1).f1) x6_1) false _ ?side1 ?side2 A9.out).mono ?_); (case side1 => repeat (first | exact (Kd.C_below HR0.out HB.out) | (with_reducible refine Kd.C_alloc ?_ _) | (with_reducible refine Kd.C_drewN ?_ _) | (with_reducible refine Kd.C_drew ?_))); (case side2 => exact HC0.out); rintro e w' ⟨rfl, ⟨nd, rfl⟩⟩; refine ⟨_, rfl, ?_⟩))
                go_ret
                exact ⟨by first | rfl | (simp [errW_none, errW_some] <;> rfl) | (simp [*, errW_none, errW_some] <;> rfl), by repeat (first | (with_reducible first | exact HB.out | apply below_alloc | apply pw_below_drewN | apply below_drew1 | refine below_set ?_ GE107.out) | exact HB.out)⟩
            · rw [if_neg c8] at H
              exact absurd H (by simp)
          · rw [if_neg c7] at H
            have c7b0 : decide (x6_1 < (((rd_T38 l0 a1).f1).length : Int)) = false := decide_eq_false c7
            clear c7
            by_cases c13 : a1 = 0
            · rw [if_pos c13] at H
              have c13b0 : (a1 == 0) = true := beq_iff_eq.mpr c13
              have c13b1 : (a1 != 0) = false := bne_eq_false_iff_eq.mpr c13
              clear c13
              by_cases c14 : ((rd_T38 l0 a1).f0) = (-1)
              · rw [if_pos c14] at H
                have c14b0 : (((rd_T38 l0 a1).f0) == (-1)) = true := beq_iff_eq.mpr c14
                have c14b1 : (((rd_T38 l0 a1).f0) != (-1)) = false := bne_eq_false_iff_eq.mpr c14
                clear c14
                obtain rfl := Option.some.inj H
                have hcz15_0 : wr.cell? ⟨gb107, 0, none⟩ = some (.int .i64 ((rd_T38 l0 a1).f0)) := (blk_cell BK107.out 0).trans rfl
                have hcz15_1 : wr.cell? ⟨gb107, 1, none⟩ = some (.slice A106_1 ((rd_T38 l0 a1).f1).length c106_1) := (blk_cell BK107.out 1).trans rfl
                have hfz15_0 := blk_frozen BK107.out 0
                have hfz15_1 := blk_frozen BK107.out 1
                go_wp2
                go_ret
                exact ⟨by first | rfl | (simp [errW_none, errW_some] <;> rfl) | (simp [*, errW_none, errW_some] <;> rfl), by repeat (first | (with_reducible first | exact HB.out | apply below_alloc | apply pw_below_drewN | apply below_drew1 | refine below_set ?_ GE107.out) | exact HB.out)⟩
              · rw [if_neg c14] at H
                have c14b0 : (((rd_T38 l0 a1).f0) == (-1)) = false := beq_eq_false_iff_ne.mpr c14
                have c14b1 : (((rd_T38 l0 a1).f0) != (-1)) = true := bne_iff_ne.mpr c14
                obtain rfl := Option.some.inj H
                have hcz16_0 : wr.cell? ⟨gb107, 0, none⟩ = some (.int .i64 ((rd_T38 l0 a1).f0)) := (blk_cell BK107.out 0).trans rfl
                have hcz16_1 : wr.cell? ⟨gb107, 1, none⟩ = some (.slice A106_1 ((rd_T38 l0 a1).f1).length c106_1) := (blk_cell BK107.out 1).trans rfl
                have hfz16_0 := blk_frozen BK107.out 0
                have hfz16_1 := blk_frozen BK107.out 1
                go_wp2
                go_ret
                exact ⟨by first | rfl | (simp [errW_none, errW_some] <;> rfl) | (simp [*, errW_none, errW_some] <;> rfl), by repeat (first | (with_reducible first | exact HB.out | apply below_alloc | apply pw_below_drewN | apply below_drew1 | refine below_set ?_ GE107.out) | exact HB.out)⟩
            · rw [if_neg c13] at H
              have c13b0 : (a1 == 0) = false := beq_eq_false_iff_ne.mpr c13
              have c13b1 : (a1 != 0) = true := bne_iff_ne.mpr c13
              by_cases c17 : a1 = 1
              · rw [if_pos c17] at H
                have c17b0 : (a1 == 1) = true := beq_iff_eq.mpr c17
                have c17b1 : (a1 != 1) = false := bne_eq_false_iff_eq.mpr c17
                clear c17
                by_cases c18 : ((rd_T38 l0 a1).f0) = 0
                · rw [if_pos c18] at H
                  have c18b0 : (((rd_T38 l0 a1).f0) == 0) = true := beq_iff_eq.mpr c18
                  have c18b1 : (((rd_T38 l0 a1).f0) != 0) = false := bne_eq_false_iff_eq.mpr c18
                  clear c18
                  by_cases c19 : (((rd_T38 l0 a1).f1).length : Int) = 1
                  · rw [if_pos c19] at H
                    have c19b0 : ((((rd_T38 l0 a1).f1).length : Int) == 1) = true := beq_iff_eq.mpr c19
                    have c19b1 : ((((rd_T38 l0 a1).f1).length : Int) != 1) = false := bne_eq_false_iff_eq.mpr c19
                    clear c19
                    by_cases c20 : 0 < (((rd_T38 l0 a1).f1).length : Int)
                    · rw [if_pos c20] at H
                      have c20b0 : decide (0 < (((rd_T38 l0 a1).f1).length : Int)) = true := decide_eq_true c20
                      have c20b1 : decide (0 < ((rd_T38 l0 a1).f1).length) = true := decide_eq_true (by omega)
                      clear c20
                      obtain rfl := Option.some.inj H
                      have hcz21_0 : wr.cell? ⟨gb107, 0, none⟩ = some (.int .i64 ((rd_T38 l0 a1).f0)) := (blk_cell BK107.out 0).trans rfl
                      have hcz21_1 : wr.cell? ⟨gb107, 1, none⟩ = some (.slice A106_1 ((rd_T38 l0 a1).f1).length c106_1) := (blk_cell BK107.out 1).trans rfl
                      have hfz21_0 := blk_frozen BK107.out 0
                      have hfz21_1 := blk_frozen BK107.out 1
                      have p110 : 0 ≤ (0 : Int) := (by omega)
                      have q110 : 0 < (((rd_T38 l0 a1).f1).length : Int) := of_decide_eq_true (by first | (with_reducible assumption) | assumption)
                      obtain ⟨ad110, e110, hx110_0⟩ := Kd.at_int HR106_1.out 0 p110 q110
                      cases e110
                      have qi110 : (0 < ((rd_T38 l0 a1).f1).length) = True := eq_true (by omega)
                      (try rw [show ((0 : Int)).toNat = 0 from rfl] at hx110_0)
                      (try rw [Addr.add_zero'] at hx110_0)
                      replace hx110_0 := (HB.out.cell (World.block_lt_of_cell? w _ hx110_0)).trans hx110_0
                      replace p110 := eq_true p110
                      replace q110 := eq_true q110
                      go_wp2
                      go_ret
                      exact ⟨by first | rfl | (simp [errW_none, errW_some] <;> rfl) | (simp [*, errW_none, errW_some] <;> rfl), by repeat (first | (with_reducible first | exact HB.out | apply below_alloc | apply pw_below_drewN | apply below_drew1 | refine below_set ?_ GE107.out) | exact HB.out)⟩
                    · rw [if_neg c20] at H
                      exact absurd H (by simp)
                  · rw [if_neg c19] at H
                    have c19b0 : ((((rd_T38 l0 a1).f1).length : Int) == 1) = false := beq_eq_false_iff_ne.mpr c19
                    have c19b1 : ((((rd_T38 l0 a1).f1).length : Int) != 1) = true := bne_iff_ne.mpr c19
                    obtain rfl := Option.some.inj H
                    have hcz22_0 : wr.cell? ⟨gb107, 0, none⟩ = some (.int .i64 ((rd_T38 l0 a1).f0)) := (blk_cell BK107.out 0).trans rfl
                    have hcz22_1 : wr.cell? ⟨gb107, 1, none⟩ = some (.slice A106_1 ((rd_T38 l0 a1).f1).length c106_1) := (blk_cell BK107.out 1).trans rfl
                    have hfz22_0 := blk_frozen BK107.out 0
                    have hfz22_1 := blk_frozen BK107.out 1
                    go_wp2
                    go_ret
                    exact ⟨by first | rfl | (simp [errW_none, errW_some] <;> rfl) | (simp [*, errW_none, errW_some] <;> rfl), by repeat (first | (with_reducible first | exact HB.out | apply below_alloc | apply pw_below_drewN | apply below_drew1 | refine below_set ?_ GE107.out) | exact HB.out)⟩
                · rw [if_neg c18] at H
                  have c18b0 : (((rd_T38 l0 a1).f0) == 0) = false := beq_eq_false_iff_ne.mpr c18
                  have c18b1 : (((rd_T38 l0 a1).f0) != 0) = true := bne_iff_ne.mpr c18
                  obtain rfl := Option.some.inj H
                  have hcz23_0 : wr.cell? ⟨gb107, 0, none⟩ = some (.int .i64 ((rd_T38 l0 a1).f0)) := (blk_cell BK107.out 0).trans rfl
                  have hcz23_1 : wr.cell? ⟨gb107, 1, none⟩ = some (.slice A106_1 ((rd_T38 l0 a1).f1).length c106_1) := (blk_cell BK107.out 1).trans rfl
                  have hfz23_0 := blk_frozen BK107.out 0
                  have hfz23_1 := blk_frozen BK107.out 1
                  go_wp2
                  go_ret
                  exact ⟨by first | rfl | (simp [errW_none, errW_some] <;> rfl) | (simp [*, errW_none, errW_some] <;> rfl), by repeat (first | (with_reducible first | exact HB.out | apply below_alloc | apply pw_below_drewN | apply below_drew1 | refine below_set ?_ GE107.out) | exact HB.out)⟩
              · rw [if_neg c17] at H
                have c17b0 : (a1 == 1) = false := beq_eq_false_iff_ne.mpr c17
                have c17b1 : (a1 != 1) = true := bne_iff_ne.mpr c17
                replace H := Option.bind_eq_some_iff.mp H
                obtain ⟨t111, A240, H⟩ := H
                replace H : (if t111 = true then (some (decide ((((rd_T38 l0 a1).f1).length : Int) ≤ 2))) else (some false)) = some r := H
                have A24 := Aside0.mk A240
                clear A240
                by_cases c25 : t111 = true
                · subst c25
                  have H1 : (some (decide ((((rd_T38 l0 a1).f1).length : Int) ≤ 2))) = some r := by rw [if_pos rfl] at H; exact H
                  clear H
                  have H := H1
                  clear H1
                  obtain rfl := Option.some.inj H
                  have hcz26_0 : wr.cell? ⟨gb107, 0, none⟩ = some (.int .i64 ((rd_T38 l0 a1).f0)) := (blk_cell BK107.out 0).trans rfl
                  have hcz26_1 : wr.cell? ⟨gb107, 1, none⟩ = some (.slice A106_1 ((rd_T38 l0 a1).f1).length c106_1) := (blk_cell BK107.out 1).trans rfl
                  have hfz26_0 := blk_frozen BK107.out 0
                  have hfz26_1 := blk_frozen BK107.out 1
                  go_wp2_with (first | ((with_reducible refine gate_callee (f := 56) rfl ?_); refine goesL_ (some 60) rfl rfl Try.func56 (by kernel_rfl) rfl #[.int .i64 ((rd_T38 l0 a1).f0), .int .i64 0, .int .i64 (wrap64 (a1 - 1))] rfl (by (try simp only [List.map_toArray, List.map_cons, List.map_nil]); first | done | rfl | (simp only [List.length_drop, List.length_take]; rfl)) ?_; (with_reducible refine (spec_l6In.calls ((rd_T38 l0 a1).f0) 0 (wrap64 (a1 - 1)) true _ A24.out).mono ?_); rintro e w' ⟨rfl, ⟨nd, rfl⟩⟩; refine ⟨_, rfl, ?_⟩))
                  go_ret
                  exact ⟨by first | rfl | (simp [errW_none, errW_some] <;> rfl) | (simp [*, errW_none, errW_some] <;> rfl), by repeat (first | (with_reducible first | exact HB.out | apply below_alloc | apply pw_below_drewN | apply below_drew1 | refine below_set ?_ GE107.out) | exact HB.out)⟩
                · replace c25 := Bool.eq_false_iff.mpr c25
                  subst c25
                  have H1 : (some false) = some r := by rw [if_neg (show ¬ (false = true) by decide)] at H; exact H
                  clear H
                  have H := H1
                  clear H1
                  obtain rfl := Option.some.inj H
                  have hcz27_0 : wr.cell? ⟨gb107, 0, none⟩ = some (.int .i64 ((rd_T38 l0 a1).f0)) := (blk_cell BK107.out 0).trans rfl
                  have hcz27_1 : wr.cell? ⟨gb107, 1, none⟩ = some (.slice A106_1 ((rd_T38 l0 a1).f1).length c106_1) := (blk_cell BK107.out 1).trans rfl
                  have hfz27_0 := blk_frozen BK107.out 0
                  have hfz27_1 := blk_frozen BK107.out 1
                  go_wp2_with (first | ((with_reducible refine gate_callee (f := 56) rfl ?_); refine goesL_ (some 60) rfl rfl Try.func56 (by kernel_rfl) rfl #[.int .i64 ((rd_T38 l0 a1).f0), .int .i64 0, .int .i64 (wrap64 (a1 - 1))] rfl (by (try simp only [List.map_toArray, List.map_cons, List.map_nil]); first | done | rfl | (simp only [List.length_drop, List.length_take]; rfl)) ?_; (with_reducible refine (spec_l6In.calls ((rd_T38 l0 a1).f0) 0 (wrap64 (a1 - 1)) false _ A24.out).mono ?_); rintro e w' ⟨rfl, ⟨nd, rfl⟩⟩; refine ⟨_, rfl, ?_⟩))
                  go_ret
                  exact ⟨by first | rfl | (simp [errW_none, errW_some] <;> rfl) | (simp [*, errW_none, errW_some] <;> rfl), by repeat (first | (with_reducible first | exact HB.out | apply below_alloc | apply pw_below_drewN | apply below_drew1 | refine below_set ?_ GE107.out) | exact HB.out)⟩
    · rw [if_neg c4] at H
      exact absurd H (by simp)
  · rw [if_neg c3] at H
    exact absurd H (by simp)

end Go.Proofs.Ytgmjolngnhdafaa.P

end
section
namespace Go.Proofs.Ytgmjolngnhdafaa.P
open Go.RowKit Go.Proofs.YtgmjolngnhdafaaW.PrintWords Go.Proofs.YtgmjolngnhdafaaW.PrintLast Go.Proofs.YtgmjolngnhdafaaW.PrintMore
attribute [local go_sem] max2_int min2_int max_two min_two max_three min_three max_four min_four
set_option linter.unusedVariables false
set_option linter.unusedSimpArgs false

set_option maxHeartbeats 8000000 in
set_option maxRecDepth 100000 in
theorem spec_ClassesOk.calls (k : Nat) (A0 : Option Addr) (c0 : Nat) (l0 : List (S38)) (r : Bool) (w : World) (hr0 : Kd.C k38 w A0 l0.length l0) (hc0 : l0.length ≤ c0) (h : spec_ClassesOk.f k l0 = some r) :
    Calls Try.prog 21 #[.slice A0 l0.length c0] w fun e w' => e = .returned (.bool r) ∧ Below w.heap.size w w' := by
  have HR0 := Aside0.mk hr0
  have HC0 := Aside0.mk hc0
  clear hr0 hc0
  have HB := Aside0.mk (Below.refl w.heap.size w)
  have H : ((spec_l6In.f (l0.length : Int) 2 5).bind fun t112 => (if t112 = true then (spec_ClassesOk.l0 k l0 0) else (some false))) = some r := h
  clear h
  replace H := Option.bind_eq_some_iff.mp H
  obtain ⟨t112, A20, H⟩ := H
  replace H : (if t112 = true then (spec_ClassesOk.l0 k l0 0) else (some false)) = some r := H
  have A2 := Aside0.mk A20
  clear A20
  by_cases c3 : t112 = true
  · subst c3
    have H1 : (spec_ClassesOk.l0 k l0 0) = some r := by rw [if_pos rfl] at H; exact H
    clear H
    have H := H1
    clear H1
    have H' := Aside0.mk H
    clear H
    go_enter Try.func21, Try.ntmps21
    go_wp2_with (first | ((with_reducible refine gate_callee (f := 56) rfl ?_); refine goesL_ (some 6) rfl rfl Try.func56 (by kernel_rfl) rfl #[.int .i64 (l0.length : Int), .int .i64 2, .int .i64 5] rfl (by (try simp only [List.map_toArray, List.map_cons, List.map_nil]); first | done | rfl | (simp only [List.length_drop, List.length_take]; rfl)) ?_; (with_reducible refine (spec_l6In.calls (l0.length : Int) 2 5 true _ A2.out).mono ?_); rintro e w' ⟨rfl, ⟨nd, rfl⟩⟩; refine ⟨_, rfl, ?_⟩))
    go_loopg [3] k (fun kq v3 w' => ∃ (x3_1 : Int), v3 = .int .i64 x3_1 ∧ Aside0 (spec_ClassesOk.l0 kq l0 x3_1 = some r) ∧ Aside0 (kq ≤ k) ∧ Aside0 (Below w.heap.size w w'))
    case atStart => exact ⟨(0), (by first | rfl | (simp; done) | (simp [*]; done)), H', ⟨Nat.le_refl _⟩, ⟨by repeat (first | (with_reducible first | exact HB.out | apply below_alloc | apply pw_below_drewN | apply below_drew1) | exact HB.out)⟩⟩
    case round =>
      clear H'
      try clear c2
      try clear p2
      try clear c3
      obtain ⟨x3_1, rfl, HA, HK1, HB⟩ := hrel
      cases gk with
      | zero => exact absurd HA.out (by simp [spec_ClassesOk.l0])
      | succ k1 =>
        have H := HA.out
        clear HA
        simp only [spec_ClassesOk.l0] at H
        by_cases c4 : x3_1 < (l0.length : Int)
        · rw [if_pos c4] at H
          have c4b0 : decide (x3_1 < (l0.length : Int)) = true := decide_eq_true c4
          clear c4
          replace H := Option.bind_eq_some_iff.mp H
          obtain ⟨t113, A50, H⟩ := H
          replace H : (if t113 = true then (spec_ClassesOk.l0 k1 l0 (wrap64 (x3_1 + 1))) else (some false)) = some r := H
          have A5 := Aside0.mk A50
          clear A50
          by_cases c6 : t113 = true
          · subst c6
            have H1 : (spec_ClassesOk.l0 k1 l0 (wrap64 (x3_1 + 1))) = some r := by rw [if_pos rfl] at H; exact H
            clear H
            have H := H1
            clear H1
            have H' := Aside0.mk H
            clear H
            go_wp2_with (first | ((with_reducible refine gate_callee (f := 57) rfl ?_); refine goesL_ (some 16) rfl rfl Try.func57 (by kernel_rfl) rfl #[.slice A0 l0.length c0, .int .i64 x3_1] rfl (by (try simp only [List.map_toArray, List.map_cons, List.map_nil]); first | done | rfl | (simp only [List.length_drop, List.length_take]; rfl)) ?_; (with_reducible refine (spec_l2Class.calls k1 _ _ l0 x3_1 true _ ?side1 ?side2 A5.out).mono ?_); (case side1 => repeat (first | exact (Kd.C_below HR0.out HB.out) | (with_reducible refine Kd.C_alloc ?_ _) | (with_reducible refine Kd.C_drewN ?_ _) | (with_reducible refine Kd.C_drew ?_))); (case side2 => exact HC0.out); rintro e w7 ⟨rfl, hb⟩; refine ⟨_, rfl, ?_⟩; have n0_ := Aside0.mk (below_step (by repeat (first | (with_reducible first | exact HB.out | apply below_alloc | apply pw_below_drewN | apply below_drew1) | exact HB.out)) hb); clear HB; have HB := n0_; clear n0_; (try clear hb); (try clear hb2); (try clear hk); (try clear hi)))
            go_roundg k1
            case measure => have := HK1.out; omega
            case rel => exact ⟨(wrap64 (x3_1 + 1)), (by first | rfl | (simp; done) | (simp [*]; done)), H', ⟨by have := HK1.out; omega⟩, ⟨by repeat (first | (with_reducible first | exact HB.out | apply below_alloc | apply pw_below_drewN | apply below_drew1) | exact HB.out)⟩⟩
          · replace c6 := Bool.eq_false_iff.mpr c6
            subst c6
            have H1 : (some false) = some r := by rw [if_neg (show ¬ (false = true) by decide)] at H; exact H
            clear H
            have H := H1
            clear H1
            obtain rfl := Option.some.inj H
            go_wp2_with (first | ((with_reducible refine gate_callee (f := 57) rfl ?_); refine goesL_ (some 16) rfl rfl Try.func57 (by kernel_rfl) rfl #[.slice A0 l0.length c0, .int .i64 x3_1] rfl (by (try simp only [List.map_toArray, List.map_cons, List.map_nil]); first | done | rfl | (simp only [List.length_drop, List.length_take]; rfl)) ?_; (with_reducible refine (spec_l2Class.calls k1 _ _ l0 x3_1 false _ ?side1 ?side2 A5.out).mono ?_); (case side1 => repeat (first | exact (Kd.C_below HR0.out HB.out) | (with_reducible refine Kd.C_alloc ?_ _) | (with_reducible refine Kd.C_drewN ?_ _) | (with_reducible refine Kd.C_drew ?_))); (case side2 => exact HC0.out); rintro e w8 ⟨rfl, hb⟩; refine ⟨_, rfl, ?_⟩; have n0_ := Aside0.mk (below_step (by repeat (first | (with_reducible first | exact HB.out | apply below_alloc | apply pw_below_drewN | apply below_drew1) | exact HB.out)) hb); clear HB; have HB := n0_; clear n0_; (try clear hb); (try clear hb2); (try clear hk); (try clear hi)))
            go_ret
            exact ⟨by first | rfl | (simp [errW_none, errW_some] <;> rfl) | (simp [*, errW_none, errW_some] <;> rfl), by repeat (first | (with_reducible first | exact HB.out | apply below_alloc | apply pw_below_drewN | apply below_drew1) | exact HB.out)⟩
        · rw [if_neg c4] at H
          have c4b0 : decide (x3_1 < (l0.length : Int)) = false := decide_eq_false c4
          clear c4
          obtain rfl := Option.some.inj H
          go_wp2
          go_ret
          exact ⟨by first | rfl | (simp [errW_none, errW_some] <;> rfl) | (simp [*, errW_none, errW_some] <;> rfl), by repeat (first | (with_reducible first | exact HB.out | apply below_alloc | apply pw_below_drewN | apply below_drew1) | exact HB.out)⟩
  · replace c3 := Bool.eq_false_iff.mpr c3
    subst c3
    have H1 : (some false) = some r := by rw [if_neg (show ¬ (false = true) by decide)] at H; exact H
    clear H
    have H := H1
    clear H1
    obtain rfl := Option.some.inj H
    go_enter Try.func21, Try.ntmps21
    go_wp2_with (first | ((with_reducible refine gate_callee (f := 56) rfl ?_); refine goesL_ (some 6) rfl rfl Try.func56 (by kernel_rfl) rfl #[.int .i64 (l0.length : Int), .int .i64 2, .int .i64 5] rfl (by (try simp only [List.map_toArray, List.map_cons, List.map_nil]); first | done | rfl | (simp only [List.length_drop, List.length_take]; rfl)) ?_; (with_reducible refine (spec_l6In.calls (l0.length : Int) 2 5 false _ A2.out).mono ?_); rintro e w' ⟨rfl, ⟨nd, rfl⟩⟩; refine ⟨_, rfl, ?_⟩))
    go_ret
    exact ⟨by first | rfl | (simp [errW_none, errW_some] <;> rfl) | (simp [*, errW_none, errW_some] <;> rfl), by repeat (first | (with_reducible first | exact HB.out | apply below_alloc | apply pw_below_drewN | apply below_drew1) | exact HB.out)⟩

end Go.Proofs.Ytgmjolngnhdafaa.P

end
section
namespace Go.Proofs.Ytgmjolngnhdafaa.P
open Go.RowKit Go.Proofs.YtgmjolngnhdafaaW.PrintWords Go.Proofs.YtgmjolngnhdafaaW.PrintLast Go.Proofs.YtgmjolngnhdafaaW.PrintMore
attribute [local go_sem] max2_int min2_int max_two min_two max_three min_three max_four min_four
set_option linter.unusedVariables false
set_option linter.unusedSimpArgs false

set_option maxHeartbeats 8000000 in
set_option maxRecDepth 100000 in
theorem spec_TypeOk.calls (k : Nat) (A0 : Option Addr) (c0 : Nat) (l0 : List (S38)) (a1 : Int) (r : Bool) (w : World) (hr0 : Kd.C k38 w A0 l0.length l0) (hc0 : l0.length ≤ c0) (h : spec_TypeOk.f k l0 a1 = some r) :
    Calls Try.prog 25 #[.slice A0 l0.length c0, .int .i64 a1] w fun e w' => e = .returned (.bool r) ∧ Below w.heap.size w w' := by
  have HR0 := Aside0.mk hr0
  have HC0 := Aside0.mk hc0
  clear hr0 hc0
  have HB := Aside0.mk (Below.refl w.heap.size w)
  have H : ((spec_ClassesOk.f k l0).bind fun t164 => (if t164 = true then (if a1 = 0 then (some true) else (if a1 = 2 then (some true) else ((spec_l2Field.f l0 a1).bind fun t165 => (some t165)))) else (some false))) = some r := h
  clear h
  replace H := Option.bind_eq_some_iff.mp H
  obtain ⟨t164, A30, H⟩ := H
  replace H : (if t164 = true then (if a1 = 0 then (some true) else (if a1 = 2 then (some true) else ((spec_l2Field.f l0 a1).bind fun t165 => (some t165)))) else (some false)) = some r := H
  have A3 := Aside0.mk A30
  clear A30
  by_cases c4 : t164 = true
  · subst c4
    have H1 : (if a1 = 0 then (some true) else (if a1 = 2 then (some true) else ((spec_l2Field.f l0 a1).bind fun t165 => (some t165)))) = some r := by rw [if_pos rfl] at H; exact H
    clear H
    have H := H1
    clear H1
    by_cases c5 : a1 = 0
    · rw [if_pos c5] at H
      have c5b0 : (a1 == 0) = true := beq_iff_eq.mpr c5
      have c5b1 : (a1 != 0) = false := bne_eq_false_iff_eq.mpr c5
      clear c5
      obtain rfl := Option.some.inj H
      go_enter Try.func25, Try.ntmps25
      go_wp2_with (first | ((with_reducible refine gate_callee (f := 21) rfl ?_); refine goesL_ (some 6) rfl rfl Try.func21 (by kernel_rfl) rfl #[.slice A0 l0.length c0] rfl (by (try simp only [List.map_toArray, List.map_cons, List.map_nil]); first | done | rfl | (simp only [List.length_drop, List.length_take]; rfl)) ?_; (with_reducible refine (spec_ClassesOk.calls k _ _ l0 true _ ?side1 ?side2 A3.out).mono ?_); (case side1 => repeat (first | exact HR0.out | (with_reducible refine Kd.C_alloc ?_ _) | (with_reducible refine Kd.C_drewN ?_ _) | (with_reducible refine Kd.C_drew ?_))); (case side2 => exact HC0.out); rintro e w6 ⟨rfl, hb⟩; refine ⟨_, rfl, ?_⟩; have n0_ := Aside0.mk (below_step (by repeat (first | (with_reducible first | exact HB.out | apply below_alloc | apply pw_below_drewN | apply below_drew1) | exact HB.out)) hb); clear HB; have HB := n0_; clear n0_; (try clear hb); (try clear hb2); (try clear hk); (try clear hi)))
      go_ret
      exact ⟨by first | rfl | (simp [errW_none, errW_some] <;> rfl) | (simp [*, errW_none, errW_some] <;> rfl), by repeat (first | (with_reducible first | exact HB.out | apply below_alloc | apply pw_below_drewN | apply below_drew1) | exact HB.out)⟩
    · rw [if_neg c5] at H
      have c5b0 : (a1 == 0) = false := beq_eq_false_iff_ne.mpr c5
      have c5b1 : (a1 != 0) = true := bne_iff_ne.mpr c5
      by_cases c7 : a1 = 2
      · rw [if_pos c7] at H
        have c7b0 : (a1 == 2) = true := beq_iff_eq.mpr c7
        have c7b1 : (a1 != 2) = false := bne_eq_false_iff_eq.mpr c7
        clear c7
        obtain rfl := Option.some.inj H
        go_enter Try.func25, Try.ntmps25
        go_wp2_with (first | ((with_reducible refine gate_callee (f := 21) rfl ?_); refine goesL_ (some 6) rfl rfl Try.func21 (by kernel_rfl) rfl #[.slice A0 l0.length c0] rfl (by (try simp only [List.map_toArray, List.map_cons, List.map_nil]); first | done | rfl | (simp only [List.length_drop, List.length_take]; rfl)) ?_; (with_reducible refine (spec_ClassesOk.calls k _ _ l0 true _ ?side1 ?side2 A3.out).mono ?_); (case side1 => repeat (first | exact HR0.out | (with_reducible refine Kd.C_alloc ?_ _) | (with_reducible refine Kd.C_drewN ?_ _) | (with_reducible refine Kd.C_drew ?_))); (case side2 => exact HC0.out); rintro e w8 ⟨rfl, hb⟩; refine ⟨_, rfl, ?_⟩; have n0_ := Aside0.mk (below_step (by repeat (first | (with_reducible first | exact HB.out | apply below_alloc | apply pw_below_drewN | apply below_drew1) | exact HB.out)) hb); clear HB; have HB := n0_; clear n0_; (try clear hb); (try clear hb2); (try clear hk); (try clear hi)))
        go_ret
        exact ⟨by first | rfl | (simp [errW_none, errW_some] <;> rfl) | (simp [*, errW_none, errW_some] <;> rfl), by repeat (first | (with_reducible first | exact HB.out | apply below_alloc | apply pw_below_drewN | apply below_drew1) | exact HB.out)⟩
      · rw [if_neg c7] at H
        have c7b0 : (a1 == 2) = false := beq_eq_false_iff_ne.mpr c7
        have c7b1 : (a1 != 2) = true := bne_iff_ne.mpr c7
        replace H := Option.bind_eq_some_iff.mp H
        obtain ⟨t165, A90, H⟩ := H
        replace H : (some t165) = some r := H
        have A9 := Aside0.mk A90
        clear A90
        obtain rfl := Option.some.inj H
        go_enter Try.func25, Try.ntmps25
        go_wp2_with (first | ((with_reducible refine gate_callee (f := 21) rfl ?_); refine goesL_ (some 6) rfl rfl Try.func21 (by kernel_rfl) rfl #[.slice A0 l0.length c0] rfl (by (try simp only [List.map_toArray, List.map_cons, List.map_nil]); first | done | rfl | (simp only [List.length_drop, List.length_take]; rfl)) ?_; (with_reducible refine (spec_ClassesOk.calls k _ _ l0 true _ ?side1 ?side2 A3.out).mono ?_); (case side1 => repeat (first | exact HR0.out | (with_reducible refine Kd.C_alloc ?_ _) | (with_reducible refine Kd.C_drewN ?_ _) | (with_reducible refine Kd.C_drew ?_))); (case side2 => exact HC0.out); rintro e w10 ⟨rfl, hb⟩; refine ⟨_, rfl, ?_⟩; have n0_ := Aside0.mk (below_step (by repeat (first | (with_reducible first | exact HB.out | apply below_alloc | apply pw_below_drewN | apply below_drew1) | exact HB.out)) hb); clear HB; have HB := n0_; clear n0_; (try clear hb); (try clear hb2); (try clear hk); (try clear hi)) | (go_at_call 61; (with_reducible refine (spec_l2Field.calls _ _ l0 a1 t165 _ ?side1 ?side2 A9.out).mono ?_); (case side1 => repeat (first | exact (Kd.C_below HR0.out HB.out) | (with_reducible refine Kd.C_alloc ?_ _) | (with_reducible refine Kd.C_drewN ?_ _) | (with_reducible refine Kd.C_drew ?_))); (case side2 => exact HC0.out); rintro e w' ⟨rfl, ⟨nd, rfl⟩⟩))
        go_ret
        exact ⟨by first | rfl | (simp [errW_none, errW_some] <;> rfl) | (simp [*, errW_none, errW_some] <;> rfl), by repeat (first | (with_reducible first | exact HB.out | apply below_alloc | apply pw_below_drewN | apply below_drew1) | exact HB.out)⟩
  · replace c4 := Bool.eq_false_iff.mpr c4
    subst c4
    have H1 : (some false) = some r := by rw [if_neg (show ¬ (false = true) by decide)] at H; exact H
    clear H
    have H := H1
    clear H1
    obtain rfl := Option.some.inj H
    go_enter Try.func25, Try.ntmps25
    go_wp2_with (first | ((with_reducible refine gate_callee (f := 21) rfl ?_); refine goesL_ (some 6) rfl rfl Try.func21 (by kernel_rfl) rfl #[.slice A0 l0.length c0] rfl (by (try simp only [List.map_toArray, List.map_cons, List.map_nil]); first | done | rfl | (simp only [List.length_drop, List.length_take]; rfl)) ?_; (with_reducible refine (spec_ClassesOk.calls k _ _ l0 false _ ?side1 ?side2 A3.out).mono ?_); (case side1 => repeat (first | exact HR0.out | (with_reducible refine Kd.C_alloc ?_ _) | (with_reducible refine Kd.C_drewN ?_ _) | (with_reducible refine Kd.C_drew ?_))); (case side2 => exact HC0.out); rintro e w11 ⟨rfl, hb⟩; refine ⟨_, rfl, ?_⟩; have n0_ := Aside0.mk (below_step (by repeat (first | (with_reducible first | exact HB.out | apply below_alloc | apply pw_below_drewN | apply below_drew1) | exact HB.out)) hb); clear HB; have HB := n0_; clear n0_; (try clear hb); (try clear hb2); (try clear hk); (try clear hi)))
    go_ret
    exact ⟨by first | rfl | (simp [errW_none, errW_some] <;> rfl) | (simp [*, errW_none, errW_some] <;> rfl), by repeat (first | (with_reducible first | exact HB.out | apply below_alloc | apply pw_below_drewN | apply below_drew1) | exact HB.out)⟩

end Go.Proofs.Ytgmjolngnhdafaa.P

end
section
namespace Go.Proofs.Ytgmjolngnhdafaa.P
open Go.RowKit Go.Proofs.YtgmjolngnhdafaaW.PrintWords Go.Proofs.YtgmjolngnhdafaaW.PrintLast Go.Proofs.YtgmjolngnhdafaaW.PrintMore
attribute [local go_sem] max2_int min2_int max_two min_two max_three min_three max_four min_four
set_option linter.unusedVariables false
set_option linter.unusedSimpArgs false

set_option maxHeartbeats 8000000 in
set_option maxRecDepth 100000 in
theorem spec_ShapeOk.calls (k : Nat) (A0 : Option Addr) (c0 : Nat) (l0 : List (S38)) (a1 : Int) (a2_0 : Bool) (A2_1 : Option Addr) (c2_1 : Nat) (l2_1 : List Int) (A2_2 : Option Addr) (c2_2 : Nat) (l2_2 : List Int) (r : Bool) (w : World) (hr0 : Kd.C k38 w A0 l0.length l0) (hc0 : l0.length ≤ c0) (hr2_1 : Kd.C (Kd.int .i64) w A2_1 l2_1.length l2_1) (hc2_1 : l2_1.length ≤ c2_1) (hr2_2 : Kd.C (Kd.int .i64) w A2_2 l2_2.length l2_2) (hc2_2 : l2_2.length ≤ c2_2) (h : spec_ShapeOk.f k l0 a1 a2_0 l2_1 l2_2 = some r) :
    Calls Try.prog 46 #[.slice A0 l0.length c0, .int .i64 a1, .agg #[.bool a2_0, .slice A2_1 l2_1.length c2_1, .slice A2_2 l2_2.length c2_2]] w fun e w' => e = .returned (.bool r) ∧ Below w.heap.size w w' := by
  have hu52 := Try.underlying52
  have HR0 := Aside0.mk hr0
  have HC0 := Aside0.mk hc0
  clear hr0 hc0
  have HR2_1 := Aside0.mk hr2_1
  have HC2_1 := Aside0.mk hc2_1
  clear hr2_1 hc2_1
  have HR2_2 := Aside0.mk hr2_2
  have HC2_2 := Aside0.mk hc2_2
  clear hr2_2 hc2_2
  have HB := Aside0.mk (Below.refl w.heap.size w)
  have H : ((spec_ClassesOk.f k l0).bind fun t374 => (if t374 = true then (if a2_0 = true then (if (l2_1.length : Int) = a1 then (spec_ShapeOk.j0 k l0 (decide ((l2_2.length : Int) > 4)) a2_0 l2_1 l2_2) else (spec_ShapeOk.j0 k l0 true a2_0 l2_1 l2_2)) else (if (l2_1.length : Int) = 0 then (some ((l2_2.length : Int) == 0)) else (some false))) else (some false))) = some r := h
  clear h
  replace H := Option.bind_eq_some_iff.mp H
  obtain ⟨t374, A40, H⟩ := H
  replace H : (if t374 = true then (if a2_0 = true then (if (l2_1.length : Int) = a1 then (spec_ShapeOk.j0 k l0 (decide ((l2_2.length : Int) > 4)) a2_0 l2_1 l2_2) else (spec_ShapeOk.j0 k l0 true a2_0 l2_1 l2_2)) else (if (l2_1.length : Int) = 0 then (some ((l2_2.length : Int) == 0)) else (some false))) else (some false)) = some r := H
  have A4 := Aside0.mk A40
  clear A40
  by_cases c5 : t374 = true
  · subst c5
    have H1 : (if a2_0 = true then (if (l2_1.length : Int) = a1 then (spec_ShapeOk.j0 k l0 (decide ((l2_2.length : Int) > 4)) a2_0 l2_1 l2_2) else (spec_ShapeOk.j0 k l0 true a2_0 l2_1 l2_2)) else (if (l2_1.length : Int) = 0 then (some ((l2_2.length : Int) == 0)) else (some false))) = some r := by rw [if_pos rfl] at H; exact H
    clear H
    have H := H1
    clear H1
    by_cases c6 : a2_0 = true
    · subst c6
      have H1 : (if (l2_1.length : Int) = a1 then (spec_ShapeOk.j0 k l0 (decide ((l2_2.length : Int) > 4)) true l2_1 l2_2) else (spec_ShapeOk.j0 k l0 true true l2_1 l2_2)) = some r := by rw [if_pos rfl] at H; exact H
      clear H
      have H := H1
      clear H1
      have HC7 := Aside0.mk H
      clear H
      go_enter Try.func46, Try.ntmps46
      go_upto_region 5 with (first | ((with_reducible refine gate_dst (N := 5) rfl ?_); (try (refine gate_guard (by rfl) ?_; dsimp only)); refine box_event ?hg (N := 5) ?hd (cs := #[.bool true, .slice A2_1 l2_1.length c2_1, .slice A2_2 l2_2.length c2_2]) (t := 52) ?hr ?_; (case hd => rfl); (case hg => rfl); (case hr => first | (go_simp; done) | (go_simp; rfl)); intro gb373 hg w8 hbox hb; have n0_ := Aside0.mk (below_step (by repeat (first | (with_reducible first | exact HB.out | apply below_alloc | apply pw_below_drewN | apply below_drew1) | exact HB.out)) hb); have n1_ := Aside0.mk (hbox); have n2_ := Aside0.mk ((by rw [hg]; exact (below_size (by repeat (first | (with_reducible first | exact HB.out | apply below_alloc | apply pw_below_drewN | apply below_drew1) | exact HB.out))) : w.heap.size ≤ gb373)); have n3_ := Aside0.mk ((by rw [hg]; exact (below_size (by repeat (first | (with_reducible first | exact HB.out | apply below_alloc | apply pw_below_drewN | apply below_drew1) | exact HB.out))) : w.heap.size ≤ gb373)); clear HB; have HB := n0_; have BK373 := n1_; have GW373 := n2_; have GE373 := n3_; clear n0_ n1_ n2_ n3_; clear hb hbox hg) | ((with_reducible refine gate_callee (f := 21) rfl ?_); refine goesL_ (some 10) rfl rfl Try.func21 (by kernel_rfl) rfl #[.slice A0 l0.length c0] rfl (by (try simp only [List.map_toArray, List.map_cons, List.map_nil]); first | done | rfl | (simp only [List.length_drop, List.length_take]; rfl)) ?_; (with_reducible refine (spec_ClassesOk.calls k _ _ l0 true _ ?side1 ?side2 A4.out).mono ?_); (case side1 => repeat (first | exact (Kd.C_below HR0.out HB.out) | (with_reducible refine Kd.C_alloc ?_ _) | (with_reducible refine Kd.C_drewN ?_ _) | (with_reducible refine Kd.C_drew ?_))); (case side2 => exact HC0.out); rintro e w9 ⟨rfl, hb⟩; refine ⟨_, rfl, ?_⟩; have n0_ := Aside0.mk (blk_below (g := gb373) (o := .cells #[.bool true, .slice A2_1 l2_1.length c2_1, .slice A2_2 l2_2.length c2_2] 52 (0, 0)) (by (with_reducible repeat (first | refine blk_drewN ?_ _ | refine blk_drew ?_ | refine blk_alloc ?_ _)); exact BK373.out) hb); have n1_ := Aside0.mk (below_step (by repeat (first | (with_reducible first | exact HB.out | apply below_alloc | apply pw_below_drewN | apply below_drew1 | refine below_set ?_ GE373.out) | exact HB.out)) hb); clear BK373; clear HB; have BK373 := n0_; have HB := n1_; clear n0_ n1_; (try clear hb); (try clear hb2); (try clear hk); (try clear hi); have hcz10_0 : w9.cell? ⟨gb373, 0, none⟩ = some (.bool true) := (blk_cell BK373.out 0).trans rfl; have hcz10_1 : w9.cell? ⟨gb373, 1, none⟩ = some (.slice A2_1 l2_1.length c2_1) := (blk_cell BK373.out 1).trans rfl; have hcz10_2 : w9.cell? ⟨gb373, 2, none⟩ = some (.slice A2_2 l2_2.length c2_2) := (blk_cell BK373.out 2).trans rfl; have hfz10_0 := blk_frozen BK373.out 0; have hfz10_1 := blk_frozen BK373.out 1; have hfz10_2 := blk_frozen BK373.out 2))
      (try simp only [Act.put, List.setIfInBounds_toArray, List.set_cons_zero, List.set_cons_succ])
      go_cut [35] (fun v35 wc => ∃ (kq : Nat) (x35_6 : Bool), v35 = .bool x35_6 ∧ Aside0 (spec_ShapeOk.j0 kq l0 x35_6 true l2_1 l2_2 = some r) ∧ Aside0 (kq ≤ k) ∧ Aside0 (wc.heap[gb373]? = some (.cells #[.bool true, (.slice A2_1 l2_1.length c2_1), (.slice A2_2 l2_2.length c2_2)] 52 (0, 0))) ∧ Aside0 (Below w.heap.size w wc))
      case first =>
        have H := HC7.out
        clear HC7
        by_cases c11 : (l2_1.length : Int) = a1
        · rw [if_pos c11] at H
          have c11b0 : ((l2_1.length : Int) == a1) = true := beq_iff_eq.mpr c11
          have c11b1 : ((l2_1.length : Int) != a1) = false := bne_eq_false_iff_eq.mpr c11
          clear c11
          (first | rw [c11b0] | (simp only [i64_w, i32_w]; rw [c11b0]) | skip)
          have H' := Aside0.mk H
          clear H
          have hcz12_0 : w9.cell? ⟨gb373, 0, none⟩ = some (.bool true) := (blk_cell BK373.out 0).trans rfl
          have hcz12_1 : w9.cell? ⟨gb373, 1, none⟩ = some (.slice A2_1 l2_1.length c2_1) := (blk_cell BK373.out 1).trans rfl
          have hcz12_2 : w9.cell? ⟨gb373, 2, none⟩ = some (.slice A2_2 l2_2.length c2_2) := (blk_cell BK373.out 2).trans rfl
          have hfz12_0 := blk_frozen BK373.out 0
          have hfz12_1 := blk_frozen BK373.out 1
          have hfz12_2 := blk_frozen BK373.out 2
          go_wp2
          go_meet
          case rel => exact ⟨_, (decide ((l2_2.length : Int) > 4)), (by first | rfl | (simp; done) | (simp [*]; done)), H', ⟨by first | omega | exact Nat.le_refl _⟩, ⟨by (with_reducible repeat (first | refine blk_drewN ?_ _ | refine blk_drew ?_ | refine blk_alloc ?_ _)); exact BK373.out⟩, ⟨by repeat (first | (with_reducible first | exact HB.out | apply below_alloc | apply pw_below_drewN | apply below_drew1 | refine below_set ?_ GE373.out) | exact HB.out)⟩⟩
        · rw [if_neg c11] at H
          have c11b0 : ((l2_1.length : Int) == a1) = false := beq_eq_false_iff_ne.mpr c11
          have c11b1 : ((l2_1.length : Int) != a1) = true := bne_iff_ne.mpr c11
          (first | rw [c11b0] | (simp only [i64_w, i32_w]; rw [c11b0]) | skip)
          have H' := Aside0.mk H
          clear H
          have hcz13_0 : w9.cell? ⟨gb373, 0, none⟩ = some (.bool true) := (blk_cell BK373.out 0).trans rfl
          have hcz13_1 : w9.cell? ⟨gb373, 1, none⟩ = some (.slice A2_1 l2_1.length c2_1) := (blk_cell BK373.out 1).trans rfl
          have hcz13_2 : w9.cell? ⟨gb373, 2, none⟩ = some (.slice A2_2 l2_2.length c2_2) := (blk_cell BK373.out 2).trans rfl
          have hfz13_0 := blk_frozen BK373.out 0
          have hfz13_1 := blk_frozen BK373.out 1
          have hfz13_2 := blk_frozen BK373.out 2
          go_wp2
          go_meet
          case rel => exact ⟨_, (true), (by first | rfl | (simp; done) | (simp [*]; done)), H', ⟨by first | omega | exact Nat.le_refl _⟩, ⟨by (with_reducible repeat (first | refine blk_drewN ?_ _ | refine blk_drew ?_ | refine blk_alloc ?_ _)); exact BK373.out⟩, ⟨by repeat (first | (with_reducible first | exact HB.out | apply below_alloc | apply pw_below_drewN | apply below_drew1 | refine below_set ?_ GE373.out) | exact HB.out)⟩⟩
      case rest =>
        clear HC7
        try clear c1
        try clear c2
        try clear p2
        try clear c4
        try clear c5
        try clear c6
        try clear c11
        try clear c11b0
        try clear c11b1
        try clear hcz10_0
        try clear hcz10_1
        try clear hcz10_2
        try clear hcz12_0
        try clear hcz12_1
        try clear hcz12_2
        try clear hcz13_0
        try clear hcz13_1
        try clear hcz13_2
        try clear hfz10_0
        try clear hfz10_1
        try clear hfz10_2
        try clear hfz12_0
        try clear hfz12_1
        try clear hfz12_2
        try clear hfz13_0
        try clear hfz13_1
        try clear hfz13_2
        obtain ⟨kq, x35_6, rfl, HA, HJ6, BK373, HB⟩ := hcut
        cases kq with
        | zero => exact absurd HA.out (by simp [spec_ShapeOk.j0])
        | succ kj6 =>
          have H := HA.out
          clear HA
          simp only [spec_ShapeOk.j0] at H
          by_cases c14 : x35_6 = true
          · subst c14
            have H1 : (some false) = some r := by rw [if_pos rfl] at H; exact H
            clear H
            have H := H1
            clear H1
            obtain rfl := Option.some.inj H
            go_wp2
            go_ret
            exact ⟨by first | rfl | (simp [errW_none, errW_some] <;> rfl) | (simp [*, errW_none, errW_some] <;> rfl), by repeat (first | (with_reducible first | exact HB.out | apply below_alloc | apply pw_below_drewN | apply below_drew1 | refine below_set ?_ GE373.out) | exact HB.out)⟩
          · replace c14 := Bool.eq_false_iff.mpr c14
            subst c14
            have H1 : (spec_ShapeOk.l0 kj6 l0 0 true l2_1 l2_2) = some r := by rw [if_neg (show ¬ (false = true) by decide)] at H; exact H
            clear H
            have H := H1
            clear H1
            have H' := Aside0.mk H
            clear H
            go_wp2
            go_loopg [7] kj6 (fun kq v7 w' => ∃ (x7_2 : Int), v7 = .int .i64 x7_2 ∧ Aside0 (spec_ShapeOk.l0 kq l0 x7_2 true l2_1 l2_2 = some r) ∧ Aside0 (kq ≤ kj6) ∧ Aside0 (w'.heap[gb373]? = some (.cells #[.bool true, (.slice A2_1 l2_1.length c2_1), (.slice A2_2 l2_2.length c2_2)] 52 (0, 0))) ∧ Aside0 (Below w.heap.size w w'))
            case atStart => exact ⟨(0), (by first | rfl | (simp; done) | (simp [*]; done)), H', ⟨Nat.le_refl _⟩, ⟨by (with_reducible repeat (first | refine blk_drewN ?_ _ | refine blk_drew ?_ | refine blk_alloc ?_ _)); exact BK373.out⟩, ⟨by repeat (first | (with_reducible first | exact HB.out | apply below_alloc | apply pw_below_drewN | apply below_drew1 | refine below_set ?_ GE373.out) | exact HB.out)⟩⟩
            case round =>
              clear H'
              try clear c1
              try clear c2
              try clear p2
              try clear c4
              try clear c5
              try clear c6
              try clear c11
              try clear c11b0
              try clear c11b1
              try clear c14
              try clear hcz10_0
              try clear hcz10_1
              try clear hcz10_2
              try clear hcz12_0
              try clear hcz12_1
              try clear hcz12_2
              try clear hcz13_0
              try clear hcz13_1
              try clear hcz13_2
              try clear hfz10_0
              try clear hfz10_1
              try clear hfz10_2
              try clear hfz12_0
              try clear hfz12_1
              try clear hfz12_2
              try clear hfz13_0
              try clear hfz13_1
              try clear hfz13_2
              try clear p2
              obtain ⟨x7_2, rfl, HA, HK2, BK373, HB⟩ := hrel
              cases gk with
              | zero => exact absurd HA.out (by simp [spec_ShapeOk.l0])
              | succ k2 =>
                have H := HA.out
                clear HA
                simp only [spec_ShapeOk.l0] at H
                by_cases c15 : x7_2 < (l2_1.length : Int)
                · rw [if_pos c15] at H
                  have c15b0 : decide (x7_2 < (l2_1.length : Int)) = true := decide_eq_true c15
                  clear c15
                  by_cases c16 : 0 ≤ x7_2
                  · rw [if_pos c16] at H
                    have c16b0 : decide (0 ≤ x7_2) = true := decide_eq_true c16
                    clear c16
                    replace H := Option.bind_eq_some_iff.mp H
                    obtain ⟨t376, A170, H⟩ := H
                    replace H : (if t376 = true then (spec_ShapeOk.l0 k2 l0 (wrap64 (x7_2 + 1)) true l2_1 l2_2) else (some false)) = some r := H
                    have A17 := Aside0.mk A170
                    clear A170
                    by_cases c18 : t376 = true
                    · subst c18
                      have H1 : (spec_ShapeOk.l0 k2 l0 (wrap64 (x7_2 + 1)) true l2_1 l2_2) = some r := by rw [if_pos rfl] at H; exact H
                      clear H
                      have H := H1
                      clear H1
                      have H' := Aside0.mk H
                      clear H
                      have hcz19_0 : wr.cell? ⟨gb373, 0, none⟩ = some (.bool true) := (blk_cell BK373.out 0).trans rfl
                      have hcz19_1 : wr.cell? ⟨gb373, 1, none⟩ = some (.slice A2_1 l2_1.length c2_1) := (blk_cell BK373.out 1).trans rfl
                      have hcz19_2 : wr.cell? ⟨gb373, 2, none⟩ = some (.slice A2_2 l2_2.length c2_2) := (blk_cell BK373.out 2).trans rfl
                      have hfz19_0 := blk_frozen BK373.out 0
                      have hfz19_1 := blk_frozen BK373.out 1
                      have hfz19_2 := blk_frozen BK373.out 2
                      have p375 : 0 ≤ (x7_2 : Int) := of_decide_eq_true (by first | (with_reducible assumption) | assumption)
                      have q375 : x7_2 < (l2_1.length : Int) := of_decide_eq_true (by first | (with_reducible assumption) | assumption)
                      obtain ⟨ad375, e375, hx375_0⟩ := Kd.at_int HR2_1.out x7_2 p375 q375
                      cases e375
                      replace hx375_0 := (HB.out.cell (World.block_lt_of_cell? w _ hx375_0)).trans hx375_0
                      replace p375 := eq_true p375
                      replace q375 := eq_true q375
                      go_wp2_with (first | ((with_reducible refine gate_callee (f := 25) rfl ?_); refine goesL_ (some 49) rfl rfl Try.func25 (by kernel_rfl) rfl #[.slice A0 l0.length c0, .int .i64 (rd l2_1 x7_2)] rfl (by (try simp only [List.map_toArray, List.map_cons, List.map_nil]); first | done | rfl | (simp only [List.length_drop, List.length_take]; rfl)) ?_; (with_reducible refine (spec_TypeOk.calls k2 _ _ l0 (rd l2_1 x7_2) true _ ?side1 ?side2 A17.out).mono ?_); (case side1 => repeat (first | exact (Kd.C_below HR0.out HB.out) | (with_reducible refine Kd.C_alloc ?_ _) | (with_reducible refine Kd.C_drewN ?_ _) | (with_reducible refine Kd.C_drew ?_))); (case side2 => exact HC0.out); rintro e w20 ⟨rfl, hb⟩; refine ⟨_, rfl, ?_⟩; have n0_ := Aside0.mk (blk_below (g := gb373) (o := .cells #[.bool true, .slice (some ad375) l2_1.length c2_1, .slice A2_2 l2_2.length c2_2] 52 (0, 0)) (by (with_reducible repeat (first | refine blk_drewN ?_ _ | refine blk_drew ?_ | refine blk_alloc ?_ _)); exact BK373.out) hb); have n1_ := Aside0.mk (below_step (by repeat (first | (with_reducible first | exact HB.out | apply below_alloc | apply pw_below_drewN | apply below_drew1 | refine below_set ?_ GE373.out) | exact HB.out)) hb); clear BK373; clear HB; have BK373 := n0_; have HB := n1_; clear n0_ n1_; (try clear hb); (try clear hb2); (try clear hk); (try clear hi)))
                      go_roundg k2
                      case measure => have := HJ6.out; have := HK2.out; omega
                      case rel => exact ⟨(wrap64 (x7_2 + 1)), (by first | rfl | (simp; done) | (simp [*]; done)), H', ⟨by have := HJ6.out; have := HK2.out; omega⟩, ⟨by (with_reducible repeat (first | refine blk_drewN ?_ _ | refine blk_drew ?_ | refine blk_alloc ?_ _)); exact BK373.out⟩, ⟨by repeat (first | (with_reducible first | exact HB.out | apply below_alloc | apply pw_below_drewN | apply below_drew1 | refine below_set ?_ GE373.out) | exact HB.out)⟩⟩
                    · replace c18 := Bool.eq_false_iff.mpr c18
                      subst c18
                      have H1 : (some false) = some r := by rw [if_neg (show ¬ (false = true) by decide)] at H; exact H
                      clear H
                      have H := H1
                      clear H1
                      obtain rfl := Option.some.inj H
                      have hcz21_0 : wr.cell? ⟨gb373, 0, none⟩ = some (.bool true) := (blk_cell BK373.out 0).trans rfl
                      have hcz21_1 : wr.cell? ⟨gb373, 1, none⟩ = some (.slice A2_1 l2_1.length c2_1) := (blk_cell BK373.out 1).trans rfl
                      have hcz21_2 : wr.cell? ⟨gb373, 2, none⟩ = some (.slice A2_2 l2_2.length c2_2) := (blk_cell BK373.out 2).trans rfl
                      have hfz21_0 := blk_frozen BK373.out 0
                      have hfz21_1 := blk_frozen BK373.out 1
                      have hfz21_2 := blk_frozen BK373.out 2
                      have p375 : 0 ≤ (x7_2 : Int) := of_decide_eq_true (by first | (with_reducible assumption) | assumption)
                      have q375 : x7_2 < (l2_1.length : Int) := of_decide_eq_true (by first | (with_reducible assumption) | assumption)
                      obtain ⟨ad375, e375, hx375_0⟩ := Kd.at_int HR2_1.out x7_2 p375 q375
                      cases e375
                      replace hx375_0 := (HB.out.cell (World.block_lt_of_cell? w _ hx375_0)).trans hx375_0
                      replace p375 := eq_true p375
                      replace q375 := eq_true q375
                      go_wp2_with (first | ((with_reducible refine gate_callee (f := 25) rfl ?_); refine goesL_ (some 49) rfl rfl Try.func25 (by kernel_rfl) rfl #[.slice A0 l0.length c0, .int .i64 (rd l2_1 x7_2)] rfl (by (try simp only [List.map_toArray, List.map_cons, List.map_nil]); first | done | rfl | (simp only [List.length_drop, List.length_take]; rfl)) ?_; (with_reducible refine (spec_TypeOk.calls k2 _ _ l0 (rd l2_1 x7_2) false _ ?side1 ?side2 A17.out).mono ?_); (case side1 => repeat (first | exact (Kd.C_below HR0.out HB.out) | (with_reducible refine Kd.C_alloc ?_ _) | (with_reducible refine Kd.C_drewN ?_ _) | (with_reducible refine Kd.C_drew ?_))); (case side2 => exact HC0.out); rintro e w22 ⟨rfl, hb⟩; refine ⟨_, rfl, ?_⟩; have n0_ := Aside0.mk (blk_below (g := gb373) (o := .cells #[.bool true, .slice (some ad375) l2_1.length c2_1, .slice A2_2 l2_2.length c2_2] 52 (0, 0)) (by (with_reducible repeat (first | refine blk_drewN ?_ _ | refine blk_drew ?_ | refine blk_alloc ?_ _)); exact BK373.out) hb); have n1_ := Aside0.mk (below_step (by repeat (first | (with_reducible first | exact HB.out | apply below_alloc | apply pw_below_drewN | apply below_drew1 | refine below_set ?_ GE373.out) | exact HB.out)) hb); clear BK373; clear HB; have BK373 := n0_; have HB := n1_; clear n0_ n1_; (try clear hb); (try clear hb2); (try clear hk); (try clear hi)))
                      go_ret
                      exact ⟨by first | rfl | (simp [errW_none, errW_some] <;> rfl) | (simp [*, errW_none, errW_some] <;> rfl), by repeat (first | (with_reducible first | exact HB.out | apply below_alloc | apply pw_below_drewN | apply below_drew1 | refine below_set ?_ GE373.out) | exact HB.out)⟩
                  · rw [if_neg c16] at H
                    exact absurd H (by simp)
                · rw [if_neg c15] at H
                  have c15b0 : decide (x7_2 < (l2_1.length : Int)) = false := decide_eq_false c15
                  clear c15
                  have H' := Aside0.mk H
                  clear H
                  have hcz23_0 : wr.cell? ⟨gb373, 0, none⟩ = some (.bool true) := (blk_cell BK373.out 0).trans rfl
                  have hcz23_1 : wr.cell? ⟨gb373, 1, none⟩ = some (.slice A2_1 l2_1.length c2_1) := (blk_cell BK373.out 1).trans rfl
                  have hcz23_2 : wr.cell? ⟨gb373, 2, none⟩ = some (.slice A2_2 l2_2.length c2_2) := (blk_cell BK373.out 2).trans rfl
                  have hfz23_0 := blk_frozen BK373.out 0
                  have hfz23_1 := blk_frozen BK373.out 1
                  have hfz23_2 := blk_frozen BK373.out 2
                  go_wp2
                  go_loopg [8] k2 (fun kq v8 w' => ∃ (x8_3 : Int), v8 = .int .i64 x8_3 ∧ Aside0 (spec_ShapeOk.l1 kq l0 x8_3 true l2_1 l2_2 = some r) ∧ Aside0 (kq ≤ k2) ∧ Aside0 (w'.heap[gb373]? = some (.cells #[.bool true, (.slice A2_1 l2_1.length c2_1), (.slice A2_2 l2_2.length c2_2)] 52 (0, 0))) ∧ Aside0 (Below w.heap.size w w'))
                  case atStart => exact ⟨(0), (by first | rfl | (simp; done) | (simp [*]; done)), H', ⟨Nat.le_refl _⟩, ⟨by (with_reducible repeat (first | refine blk_drewN ?_ _ | refine blk_drew ?_ | refine blk_alloc ?_ _)); exact BK373.out⟩, ⟨by repeat (first | (with_reducible first | exact HB.out | apply below_alloc | apply pw_below_drewN | apply below_drew1 | refine below_set ?_ GE373.out) | exact HB.out)⟩⟩
                  case round =>
                    clear H'
                    try clear c1
                    try clear c2
                    try clear p2
                    try clear p3
                    try clear q3
                    try clear hx3
                    try clear c4
                    try clear c5
                    try clear c6
                    try clear p6
                    try clear c11
                    try clear c11b0
                    try clear c11b1
                    try clear c14
                    try clear c15
                    try clear c15b0
                    try clear c16
                    try clear c16b0
                    try clear c18
                    try clear c21
                    try clear hcz10_0
                    try clear hcz10_1
                    try clear hcz10_2
                    try clear hcz12_0
                    try clear hcz12_1
                    try clear hcz12_2
                    try clear hcz13_0
                    try clear hcz13_1
                    try clear hcz13_2
                    try clear hcz19_0
                    try clear hcz19_1
                    try clear hcz19_2
                    try clear hcz21_0
                    try clear hcz21_1
                    try clear hcz21_2
                    try clear hcz23_0
                    try clear hcz23_1
                    try clear hcz23_2
                    try clear hfz10_0
                    try clear hfz10_1
                    try clear hfz10_2
                    try clear hfz12_0
                    try clear hfz12_1
                    try clear hfz12_2
                    try clear hfz13_0
                    try clear hfz13_1
                    try clear hfz13_2
                    try clear hfz19_0
                    try clear hfz19_1
                    try clear hfz19_2
                    try clear hfz21_0
                    try clear hfz21_1
                    try clear hfz21_2
                    try clear hfz23_0
                    try clear hfz23_1
                    try clear hfz23_2
                    try clear hx375_0
                    try clear p2
                    try clear p375
                    try clear q375
                    obtain ⟨x8_3, rfl, HA, HK3, BK373, HB⟩ := hrel
                    cases gk with
                    | zero => exact absurd HA.out (by simp [spec_ShapeOk.l1])
                    | succ k3 =>
                      have H := HA.out
                      clear HA
                      simp only [spec_ShapeOk.l1] at H
                      by_cases c24 : x8_3 < (l2_2.length : Int)
                      · rw [if_pos c24] at H
                        have c24b0 : decide (x8_3 < (l2_2.length : Int)) = true := decide_eq_true c24
                        clear c24
                        by_cases c25 : 0 ≤ x8_3
                        · rw [if_pos c25] at H
                          have c25b0 : decide (0 ≤ x8_3) = true := decide_eq_true c25
                          clear c25
                          replace H := Option.bind_eq_some_iff.mp H
                          obtain ⟨t378, A260, H⟩ := H
                          replace H : (if t378 = true then (if (rd l2_2 x8_3) = 0 then (some false) else (spec_ShapeOk.l1 k3 l0 (wrap64 (x8_3 + 1)) true l2_1 l2_2)) else (some false)) = some r := H
                          have A26 := Aside0.mk A260
                          clear A260
                          by_cases c27 : t378 = true
                          · subst c27
                            have H1 : (if (rd l2_2 x8_3) = 0 then (some false) else (spec_ShapeOk.l1 k3 l0 (wrap64 (x8_3 + 1)) true l2_1 l2_2)) = some r := by rw [if_pos rfl] at H; exact H
                            clear H
                            have H := H1
                            clear H1
                            by_cases c28 : (rd l2_2 x8_3) = 0
                            · rw [if_pos c28] at H
                              have c28b0 : ((rd l2_2 x8_3) == 0) = true := beq_iff_eq.mpr c28
                              have c28b1 : ((rd l2_2 x8_3) != 0) = false := bne_eq_false_iff_eq.mpr c28
                              clear c28
                              obtain rfl := Option.some.inj H
                              have hcz29_0 : wr.cell? ⟨gb373, 0, none⟩ = some (.bool true) := (blk_cell BK373.out 0).trans rfl
                              have hcz29_1 : wr.cell? ⟨gb373, 1, none⟩ = some (.slice A2_1 l2_1.length c2_1) := (blk_cell BK373.out 1).trans rfl
                              have hcz29_2 : wr.cell? ⟨gb373, 2, none⟩ = some (.slice A2_2 l2_2.length c2_2) := (blk_cell BK373.out 2).trans rfl
                              have hfz29_0 := blk_frozen BK373.out 0
                              have hfz29_1 := blk_frozen BK373.out 1
                              have hfz29_2 := blk_frozen BK373.out 2
                              have p377 : 0 ≤ (x8_3 : Int) := of_decide_eq_true (by first | (with_reducible assumption) | assumption)
                              have q377 : x8_3 < (l2_2.length : Int) := of_decide_eq_true (by first | (with_reducible assumption) | assumption)
                              obtain ⟨ad377, e377, hx377_0⟩ := Kd.at_int HR2_2.out x8_3 p377 q377
                              cases e377
                              replace hx377_0 := (HB.out.cell (World.block_lt_of_cell? w _ hx377_0)).trans hx377_0
                              replace p377 := eq_true p377
                              replace q377 := eq_true q377
                              go_wp2_with (first | ((with_reducible refine gate_callee (f := 25) rfl ?_); refine goesL_ (some 64) rfl rfl Try.func25 (by kernel_rfl) rfl #[.slice A0 l0.length c0, .int .i64 (rd l2_2 x8_3)] rfl (by (try simp only [List.map_toArray, List.map_cons, List.map_nil]); first | done | rfl | (simp only [List.length_drop, List.length_take]; rfl)) ?_; (with_reducible refine (spec_TypeOk.calls k3 _ _ l0 (rd l2_2 x8_3) true _ ?side1 ?side2 A26.out).mono ?_); (case side1 => repeat (first | exact (Kd.C_below HR0.out HB.out) | (with_reducible refine Kd.C_alloc ?_ _) | (with_reducible refine Kd.C_drewN ?_ _) | (with_reducible refine Kd.C_drew ?_))); (case side2 => exact HC0.out); rintro e w30 ⟨rfl, hb⟩; refine ⟨_, rfl, ?_⟩; have n0_ := Aside0.mk (blk_below (g := gb373) (o := .cells #[.bool true, .slice A2_1 l2_1.length c2_1, .slice (some ad377) l2_2.length c2_2] 52 (0, 0)) (by (with_reducible repeat (first | refine blk_drewN ?_ _ | refine blk_drew ?_ | refine blk_alloc ?_ _)); exact BK373.out) hb); have n1_ := Aside0.mk (below_step (by repeat (first | (with_reducible first | exact HB.out | apply below_alloc | apply pw_below_drewN | apply below_drew1 | refine below_set ?_ GE373.out) | exact HB.out)) hb); clear BK373; clear HB; have BK373 := n0_; have HB := n1_; clear n0_ n1_; (try clear hb); (try clear hb2); (try clear hk); (try clear hi); have hcz31_0 : w30.cell? ⟨gb373, 0, none⟩ = some (.bool true) := (blk_cell BK373.out 0).trans rfl; have hcz31_1 : w30.cell? ⟨gb373, 1, none⟩ = some (.slice A2_1 l2_1.length c2_1) := (blk_cell BK373.out 1).trans rfl; have hcz31_2 : w30.cell? ⟨gb373, 2, none⟩ = some (.slice (some ad377) l2_2.length c2_2) := (blk_cell BK373.out 2).trans rfl; have hfz31_0 := blk_frozen BK373.out 0; have hfz31_1 := blk_frozen BK373.out 1; have hfz31_2 := blk_frozen BK373.out 2; have p379 : 0 ≤ (x8_3 : Int) := of_decide_eq_true (by first | (with_reducible assumption) | assumption); have q379 : x8_3 < (l2_2.length : Int) := of_decide_eq_true (by first | (with_reducible assumption) | assumption); obtain ⟨ad379, e379, hx379_0⟩ := Kd.at_int HR2_2.out x8_3 p379 q379; obtain rfl : ad377 = ad379 := (by injection e379); replace hx379_0 := (HB.out.cell (World.block_lt_of_cell? w _ hx379_0)).trans hx379_0; replace p379 := eq_true p379; replace q379 := eq_true q379))
                              go_ret
                              exact ⟨by first | rfl | (simp [errW_none, errW_some] <;> rfl) | (simp [*, errW_none, errW_some] <;> rfl), by repeat (first | (with_reducible first | exact HB.out | apply below_alloc | apply pw_below_drewN | apply below_drew1 | refine below_set ?_ GE373.out) | exact HB.out)⟩
                            · rw [if_neg c28] at H
                              have c28b0 : ((rd l2_2 x8_3) == 0) = false := beq_eq_false_iff_ne.mpr c28
                              have c28b1 : ((rd l2_2 x8_3) != 0) = true := bne_iff_ne.mpr c28
                              have H' := Aside0.mk H
                              clear H
                              have hcz32_0 : wr.cell? ⟨gb373, 0, none⟩ = some (.bool true) := (blk_cell BK373.out 0).trans rfl
                              have hcz32_1 : wr.cell? ⟨gb373, 1, none⟩ = some (.slice A2_1 l2_1.length c2_1) := (blk_cell BK373.out 1).trans rfl
                              have hcz32_2 : wr.cell? ⟨gb373, 2, none⟩ = some (.slice A2_2 l2_2.length c2_2) := (blk_cell BK373.out 2).trans rfl
                              have hfz32_0 := blk_frozen BK373.out 0
                              have hfz32_1 := blk_frozen BK373.out 1
                              have hfz32_2 := blk_frozen BK373.out 2
                              have p377 : 0 ≤ (x8_3 : Int) := of_decide_eq_true (by first | (with_reducible assumption) | assumption)
                              have q377 : x8_3 < (l2_2.length : Int) := of_decide_eq_true (by first | (with_reducible assumption) | assumption)
                              obtain ⟨ad377, e377, hx377_0⟩ := Kd.at_int HR2_2.out x8_3 p377 q377
                              cases e377
                              replace hx377_0 := (HB.out.cell (World.block_lt_of_cell? w _ hx377_0)).trans hx377_0
                              replace p377 := eq_true p377
                              replace q377 := eq_true q377
                              go_wp2_with (first | ((with_reducible refine gate_callee (f := 25) rfl ?_); refine goesL_ (some 64) rfl rfl Try.func25 (by kernel_rfl) rfl #[.slice A0 l0.length c0, .int .i64 (rd l2_2 x8_3)] rfl (by (try simp only [List.map_toArray, List.map_cons, List.map_nil]); first | done | rfl | (simp only [List.length_drop, List.length_take]; rfl)) ?_; (with_reducible refine (spec_TypeOk.calls k3 _ _ l0 (rd l2_2 x8_3) true _ ?side1 ?side2 A26.out).mono ?_); (case side1 => repeat (first | exact (Kd.C_below HR0.out HB.out) | (with_reducible refine Kd.C_alloc ?_ _) | (with_reducible refine Kd.C_drewN ?_ _) | (with_reducible refine Kd.C_drew ?_))); (case side2 => exact HC0.out); rintro e w33 ⟨rfl, hb⟩; refine ⟨_, rfl, ?_⟩; have n0_ := Aside0.mk (blk_below (g := gb373) (o := .cells #[.bool true, .slice A2_1 l2_1.length c2_1, .slice (some ad377) l2_2.length c2_2] 52 (0, 0)) (by (with_reducible repeat (first | refine blk_drewN ?_ _ | refine blk_drew ?_ | refine blk_alloc ?_ _)); exact BK373.out) hb); have n1_ := Aside0.mk (below_step (by repeat (first | (with_reducible first | exact HB.out | apply below_alloc | apply pw_below_drewN | apply below_drew1 | refine below_set ?_ GE373.out) | exact HB.out)) hb); clear BK373; clear HB; have BK373 := n0_; have HB := n1_; clear n0_ n1_; (try clear hb); (try clear hb2); (try clear hk); (try clear hi); have hcz34_0 : w33.cell? ⟨gb373, 0, none⟩ = some (.bool true) := (blk_cell BK373.out 0).trans rfl; have hcz34_1 : w33.cell? ⟨gb373, 1, none⟩ = some (.slice A2_1 l2_1.length c2_1) := (blk_cell BK373.out 1).trans rfl; have hcz34_2 : w33.cell? ⟨gb373, 2, none⟩ = some (.slice (some ad377) l2_2.length c2_2) := (blk_cell BK373.out 2).trans rfl; have hfz34_0 := blk_frozen BK373.out 0; have hfz34_1 := blk_frozen BK373.out 1; have hfz34_2 := blk_frozen BK373.out 2; have p379 : 0 ≤ (x8_3 : Int) := of_decide_eq_true (by first | (with_reducible assumption) | assumption); have q379 : x8_3 < (l2_2.length : Int) := of_decide_eq_true (by first | (with_reducible assumption) | assumption); obtain ⟨ad379, e379, hx379_0⟩ := Kd.at_int HR2_2.out x8_3 p379 q379; obtain rfl : ad377 = ad379 := (by injection e379); replace hx379_0 := (HB.out.cell (World.block_lt_of_cell? w _ hx379_0)).trans hx379_0; replace p379 := eq_true p379; replace q379 := eq_true q379))
                              go_roundg k3
                              case measure => have := HJ6.out; have := HK2.out; have := HK3.out; omega
                              case rel => exact ⟨(wrap64 (x8_3 + 1)), (by first | rfl | (simp; done) | (simp [*]; done)), H', ⟨by have := HJ6.out; have := HK2.out; have := HK3.out; omega⟩, ⟨by (with_reducible repeat (first | refine blk_drewN ?_ _ | refine blk_drew ?_ | refine blk_alloc ?_ _)); exact BK373.out⟩, ⟨by repeat (first | (with_reducible first | exact HB.out | apply below_alloc | apply pw_below_drewN | apply below_drew1 | refine below_set ?_ GE373.out) | exact HB.out)⟩⟩
                          · replace c27 := Bool.eq_false_iff.mpr c27
                            subst c27
                            have H1 : (some false) = some r := by rw [if_neg (show ¬ (false = true) by decide)] at H; exact H
                            clear H
                            have H := H1
                            clear H1
                            obtain rfl := Option.some.inj H
                            have hcz35_0 : wr.cell? ⟨gb373, 0, none⟩ = some (.bool true) := (blk_cell BK373.out 0).trans rfl
                            have hcz35_1 : wr.cell? ⟨gb373, 1, none⟩ = some (.slice A2_1 l2_1.length c2_1) := (blk_cell BK373.out 1).trans rfl
                            have hcz35_2 : wr.cell? ⟨gb373, 2, none⟩ = some (.slice A2_2 l2_2.length c2_2) := (blk_cell BK373.out 2).trans rfl
                            have hfz35_0 := blk_frozen BK373.out 0
                            have hfz35_1 := blk_frozen BK373.out 1
                            have hfz35_2 := blk_frozen BK373.out 2
                            have p377 : 0 ≤ (x8_3 : Int) := of_decide_eq_true (by first | (with_reducible assumption) | assumption)
                            have q377 : x8_3 < (l2_2.length : Int) := of_decide_eq_true (by first | (with_reducible assumption) | assumption)
                            obtain ⟨ad377, e377, hx377_0⟩ := Kd.at_int HR2_2.out x8_3 p377 q377
                            cases e377
                            replace hx377_0 := (HB.out.cell (World.block_lt_of_cell? w _ hx377_0)).trans hx377_0
                            replace p377 := eq_true p377
                            replace q377 := eq_true q377
                            go_wp2_with (first | ((with_reducible refine gate_callee (f := 25) rfl ?_); refine goesL_ (some 64) rfl rfl Try.func25 (by kernel_rfl) rfl #[.slice A0 l0.length c0, .int .i64 (rd l2_2 x8_3)] rfl (by (try simp only [List.map_toArray, List.map_cons, List.map_nil]); first | done | rfl | (simp only [List.length_drop, List.length_take]; rfl)) ?_; (with_reducible refine (spec_TypeOk.calls k3 _ _ l0 (rd l2_2 x8_3) false _ ?side1 ?side2 A26.out).mono ?_); (case side1 => repeat (first | exact (Kd.C_below HR0.out HB.out) | (with_reducible refine Kd.C_alloc ?_ _) | (with_reducible refine Kd.C_drewN ?_ _) | (with_reducible refine Kd.C_drew ?_))); (case side2 => exact HC0.out); rintro e w36 ⟨rfl, hb⟩; refine ⟨_, rfl, ?_⟩; have n0_ := Aside0.mk (blk_below (g := gb373) (o := .cells #[.bool true, .slice A2_1 l2_1.length c2_1, .slice (some ad377) l2_2.length c2_2] 52 (0, 0)) (by (with_reducible repeat (first | refine blk_drewN ?_ _ | refine blk_drew ?_ | refine blk_alloc ?_ _)); exact BK373.out) hb); have n1_ := Aside0.mk (below_step (by repeat (first | (with_reducible first | exact HB.out | apply below_alloc | apply pw_below_drewN | apply below_drew1 | refine below_set ?_ GE373.out) | exact HB.out)) hb); clear BK373; clear HB; have BK373 := n0_; have HB := n1_; clear n0_ n1_; (try clear hb); (try clear hb2); (try clear hk); (try clear hi)))
                            go_ret
                            exact ⟨by first | rfl | (simp [errW_none, errW_some] <;> rfl) | (simp [*, errW_none, errW_some] <;> rfl), by repeat (first | (with_reducible first | exact HB.out | apply below_alloc | apply pw_below_drewN | apply below_drew1 | refine below_set ?_ GE373.out) | exact HB.out)⟩
                        · rw [if_neg c25] at H
                          exact absurd H (by simp)
                      · rw [if_neg c24] at H
                        have c24b0 : decide (x8_3 < (l2_2.length : Int)) = false := decide_eq_false c24
                        clear c24
                        obtain rfl := Option.some.inj H
                        have hcz37_0 : wr.cell? ⟨gb373, 0, none⟩ = some (.bool true) := (blk_cell BK373.out 0).trans rfl
                        have hcz37_1 : wr.cell? ⟨gb373, 1, none⟩ = some (.slice A2_1 l2_1.length c2_1) := (blk_cell BK373.out 1).trans rfl
                        have hcz37_2 : wr.cell? ⟨gb373, 2, none⟩ = some (.slice A2_2 l2_2.length c2_2) := (blk_cell BK373.out 2).trans rfl
                        have hfz37_0 := blk_frozen BK373.out 0
                        have hfz37_1 := blk_frozen BK373.out 1
                        have hfz37_2 := blk_frozen BK373.out 2
                        go_wp2
                        go_ret
                        exact ⟨by first | rfl | (simp [errW_none, errW_some] <;> rfl) | (simp [*, errW_none, errW_some] <;> rfl), by repeat (first | (with_reducible first | exact HB.out | apply below_alloc | apply pw_below_drewN | apply below_drew1 | refine below_set ?_ GE373.out) | exact HB.out)⟩
    · replace c6 := Bool.eq_false_iff.mpr c6
      subst c6
      have H1 : (if (l2_1.length : Int) = 0 then (some ((l2_2.length : Int) == 0)) else (some false)) = some r := by rw [if_neg (show ¬ (false = true) by decide)] at H; exact H
      clear H
      have H := H1
      clear H1
      by_cases c38 : (l2_1.length : Int) = 0
      · rw [if_pos c38] at H
        have c38b0 : ((l2_1.length : Int) == 0) = true := beq_iff_eq.mpr c38
        have c38b1 : ((l2_1.length : Int) != 0) = false := bne_eq_false_iff_eq.mpr c38
        clear c38
        obtain rfl := Option.some.inj H
        go_enter Try.func46, Try.ntmps46
        go_wp2_with (first | ((with_reducible refine gate_dst (N := 5) rfl ?_); (try (refine gate_guard (by rfl) ?_; dsimp only)); refine box_event ?hg (N := 5) ?hd (cs := #[.bool false, .slice A2_1 l2_1.length c2_1, .slice A2_2 l2_2.length c2_2]) (t := 52) ?hr ?_; (case hd => rfl); (case hg => rfl); (case hr => first | (go_simp; done) | (go_simp; rfl)); intro gb373 hg w39 hbox hb; have n0_ := Aside0.mk (below_step (by repeat (first | (with_reducible first | exact HB.out | apply below_alloc | apply pw_below_drewN | apply below_drew1) | exact HB.out)) hb); have n1_ := Aside0.mk (hbox); have n2_ := Aside0.mk ((by rw [hg]; exact (below_size (by repeat (first | (with_reducible first | exact HB.out | apply below_alloc | apply pw_below_drewN | apply below_drew1) | exact HB.out))) : w.heap.size ≤ gb373)); have n3_ := Aside0.mk ((by rw [hg]; exact (below_size (by repeat (first | (with_reducible first | exact HB.out | apply below_alloc | apply pw_below_drewN | apply below_drew1) | exact HB.out))) : w.heap.size ≤ gb373)); clear HB; have HB := n0_; have BK373 := n1_; have GW373 := n2_; have GE373 := n3_; clear n0_ n1_ n2_ n3_; clear hb hbox hg) | ((with_reducible refine gate_callee (f := 21) rfl ?_); refine goesL_ (some 10) rfl rfl Try.func21 (by kernel_rfl) rfl #[.slice A0 l0.length c0] rfl (by (try simp only [List.map_toArray, List.map_cons, List.map_nil]); first | done | rfl | (simp only [List.length_drop, List.length_take]; rfl)) ?_; (with_reducible refine (spec_ClassesOk.calls k _ _ l0 true _ ?side1 ?side2 A4.out).mono ?_); (case side1 => repeat (first | exact (Kd.C_below HR0.out HB.out) | (with_reducible refine Kd.C_alloc ?_ _) | (with_reducible refine Kd.C_drewN ?_ _) | (with_reducible refine Kd.C_drew ?_))); (case side2 => exact HC0.out); rintro e w40 ⟨rfl, hb⟩; refine ⟨_, rfl, ?_⟩; have n0_ := Aside0.mk (blk_below (g := gb373) (o := .cells #[.bool false, .slice A2_1 l2_1.length c2_1, .slice A2_2 l2_2.length c2_2] 52 (0, 0)) (by (with_reducible repeat (first | refine blk_drewN ?_ _ | refine blk_drew ?_ | refine blk_alloc ?_ _)); exact BK373.out) hb); have n1_ := Aside0.mk (below_step (by repeat (first | (with_reducible first | exact HB.out | apply below_alloc | apply pw_below_drewN | apply below_drew1 | refine below_set ?_ GE373.out) | exact HB.out)) hb); clear BK373; clear HB; have BK373 := n0_; have HB := n1_; clear n0_ n1_; (try clear hb); (try clear hb2); (try clear hk); (try clear hi); have hcz41_0 : w40.cell? ⟨gb373, 0, none⟩ = some (.bool false) := (blk_cell BK373.out 0).trans rfl; have hcz41_1 : w40.cell? ⟨gb373, 1, none⟩ = some (.slice A2_1 l2_1.length c2_1) := (blk_cell BK373.out 1).trans rfl; have hcz41_2 : w40.cell? ⟨gb373, 2, none⟩ = some (.slice A2_2 l2_2.length c2_2) := (blk_cell BK373.out 2).trans rfl; have hfz41_0 := blk_frozen BK373.out 0; have hfz41_1 := blk_frozen BK373.out 1; have hfz41_2 := blk_frozen BK373.out 2))
        go_ret
        exact ⟨by first | rfl | (simp [errW_none, errW_some] <;> rfl) | (simp [*, errW_none, errW_some] <;> rfl), by repeat (first | (with_reducible first | exact HB.out | apply below_alloc | apply pw_below_drewN | apply below_drew1 | refine below_set ?_ GE373.out) | exact HB.out)⟩
      · rw [if_neg c38] at H
        have c38b0 : ((l2_1.length : Int) == 0) = false := beq_eq_false_iff_ne.mpr c38
        have c38b1 : ((l2_1.length : Int) != 0) = true := bne_iff_ne.mpr c38
        have c38b2 : ¬ (l2_1 = []) := fun h_ => c38 (by rw [h_]; rfl)
        obtain rfl := Option.some.inj H
        go_enter Try.func46, Try.ntmps46
        go_wp2_with (first | ((with_reducible refine gate_dst (N := 5) rfl ?_); (try (refine gate_guard (by rfl) ?_; dsimp only)); refine box_event ?hg (N := 5) ?hd (cs := #[.bool false, .slice A2_1 l2_1.length c2_1, .slice A2_2 l2_2.length c2_2]) (t := 52) ?hr ?_; (case hd => rfl); (case hg => rfl); (case hr => first | (go_simp; done) | (go_simp; rfl)); intro gb373 hg w42 hbox hb; have n0_ := Aside0.mk (below_step (by repeat (first | (with_reducible first | exact HB.out | apply below_alloc | apply pw_below_drewN | apply below_drew1) | exact HB.out)) hb); have n1_ := Aside0.mk (hbox); have n2_ := Aside0.mk ((by rw [hg]; exact (below_size (by repeat (first | (with_reducible first | exact HB.out | apply below_alloc | apply pw_below_drewN | apply below_drew1) | exact HB.out))) : w.heap.size ≤ gb373)); have n3_ := Aside0.mk ((by rw [hg]; exact (below_size (by repeat (first | (with_reducible first | exact HB.out | apply below_alloc | apply pw_below_drewN | apply below_drew1) | exact HB.out))) : w.heap.size ≤ gb373)); clear HB; have HB := n0_; have BK373 := n1_; have GW373 := n2_; have GE373 := n3_; clear n0_ n1_ n2_ n3_; clear hb hbox hg) | ((with_reducible refine gate_callee (f := 21) rfl ?_); refine goesL_ (some 10) rfl rfl Try.func21 (by kernel_rfl) rfl #[.slice A0 l0.length c0] rfl (by (try simp only [List.map_toArray, List.map_cons, List.map_nil]); first | done | rfl | (simp only [List.length_drop, List.length_take]; rfl)) ?_; (with_reducible refine (spec_ClassesOk.calls k _ _ l0 true _ ?side1 ?side2 A4.out).mono ?_); (case side1 => repeat (first | exact (Kd.C_below HR0.out HB.out) | (with_reducible refine Kd.C_alloc ?_ _) | (with_reducible refine Kd.C_drewN ?_ _) | (with_reducible refine Kd.C_drew ?_))); (case side2 => exact HC0.out); rintro e w43 ⟨rfl, hb⟩; refine ⟨_, rfl, ?_⟩; have n0_ := Aside0.mk (blk_below (g := gb373) (o := .cells #[.bool false, .slice A2_1 l2_1.length c2_1, .slice A2_2 l2_2.length c2_2] 52 (0, 0)) (by (with_reducible repeat (first | refine blk_drewN ?_ _ | refine blk_drew ?_ | refine blk_alloc ?_ _)); exact BK373.out) hb); have n1_ := Aside0.mk (below_step (by repeat (first | (with_reducible first | exact HB.out | apply below_alloc | apply pw_below_drewN | apply below_drew1 | refine below_set ?_ GE373.out) | exact HB.out)) hb); clear BK373; clear HB; have BK373 := n0_; have HB := n1_; clear n0_ n1_; (try clear hb); (try clear hb2); (try clear hk); (try clear hi); have hcz44_0 : w43.cell? ⟨gb373, 0, none⟩ = some (.bool false) := (blk_cell BK373.out 0).trans rfl; have hcz44_1 : w43.cell? ⟨gb373, 1, none⟩ = some (.slice A2_1 l2_1.length c2_1) := (blk_cell BK373.out 1).trans rfl; have hcz44_2 : w43.cell? ⟨gb373, 2, none⟩ = some (.slice A2_2 l2_2.length c2_2) := (blk_cell BK373.out 2).trans rfl; have hfz44_0 := blk_frozen BK373.out 0; have hfz44_1 := blk_frozen BK373.out 1; have hfz44_2 := blk_frozen BK373.out 2))
        go_ret
        exact ⟨by first | rfl | (simp [errW_none, errW_some] <;> rfl) | (simp [*, errW_none, errW_some] <;> rfl), by repeat (first | (with_reducible first | exact HB.out | apply below_alloc | apply pw_below_drewN | apply below_drew1 | refine below_set ?_ GE373.out) | exact HB.out)⟩
  · replace c5 := Bool.eq_false_iff.mpr c5
    subst c5
    have H1 : (some false) = some r := by rw [if_neg (show ¬ (false = true) by decide)] at H; exact H
    clear H
    have H := H1
    clear H1
    obtain rfl := Option.some.inj H
    go_enter Try.func46, Try.ntmps46
    go_wp2_with (first | ((with_reducible refine gate_dst (N := 5) rfl ?_); (try (refine gate_guard (by rfl) ?_; dsimp only)); refine box_event ?hg (N := 5) ?hd (cs := #[.bool a2_0, .slice A2_1 l2_1.length c2_1, .slice A2_2 l2_2.length c2_2]) (t := 52) ?hr ?_; (case hd => rfl); (case hg => rfl); (case hr => first | (go_simp; done) | (go_simp; rfl)); intro gb373 hg w45 hbox hb; have n0_ := Aside0.mk (below_step (by repeat (first | (with_reducible first | exact HB.out | apply below_alloc | apply pw_below_drewN | apply below_drew1) | exact HB.out)) hb); have n1_ := Aside0.mk (hbox); have n2_ := Aside0.mk ((by rw [hg]; exact (below_size (by repeat (first | (with_reducible first | exact HB.out | apply below_alloc | apply pw_below_drewN | apply below_drew1) | exact HB.out))) : w.heap.size ≤ gb373)); have n3_ := Aside0.mk ((by rw [hg]; exact (below_size (by repeat (first | (with_reducible first | exact HB.out | apply below_alloc | apply pw_below_drewN | apply below_drew1) | exact HB.out))) : w.heap.size ≤ gb373)); clear HB; have HB := n0_; have BK373 := n1_; have GW373 := n2_; have GE373 := n3_; clear n0_ n1_ n2_ n3_; clear hb hbox hg) | ((with_reducible refine gate_callee (f := 21) rfl ?_); refine goesL_ (some 10) rfl rfl Try.func21 (by kernel_rfl) rfl #[.slice A0 l0.length c0] rfl (by (try simp only [List.map_toArray, List.map_cons, List.map_nil]); first | done | rfl | (simp only [List.length_drop, List.length_take]; rfl)) ?_; (with_reducible refine (spec_ClassesOk.calls k _ _ l0 false _ ?side1 ?side2 A4.out).mono ?_); (case side1 => repeat (first | exact (Kd.C_below HR0.out HB.out) | (with_reducible refine Kd.C_alloc ?_ _) | (with_reducible refine Kd.C_drewN ?_ _) | (with_reducible refine Kd.C_drew ?_))); (case side2 => exact HC0.out); rintro e w46 ⟨rfl, hb⟩; refine ⟨_, rfl, ?_⟩; have n0_ := Aside0.mk (blk_below (g := gb373) (o := .cells #[.bool a2_0, .slice A2_1 l2_1.length c2_1, .slice A2_2 l2_2.length c2_2] 52 (0, 0)) (by (with_reducible repeat (first | refine blk_drewN ?_ _ | refine blk_drew ?_ | refine blk_alloc ?_ _)); exact BK373.out) hb); have n1_ := Aside0.mk (below_step (by repeat (first | (with_reducible first | exact HB.out | apply below_alloc | apply pw_below_drewN | apply below_drew1 | refine below_set ?_ GE373.out) | exact HB.out)) hb); clear BK373; clear HB; have BK373 := n0_; have HB := n1_; clear n0_ n1_; (try clear hb); (try clear hb2); (try clear hk); (try clear hi)))
    go_ret
    exact ⟨by first | rfl | (simp [errW_none, errW_some] <;> rfl) | (simp [*, errW_none, errW_some] <;> rfl), by repeat (first | (with_reducible first | exact HB.out | apply below_alloc | apply pw_below_drewN | apply below_drew1 | refine below_set ?_ GE373.out) | exact HB.out)⟩

end Go.Proofs.Ytgmjolngnhdafaa.P

end
section
namespace Go.Proofs.Ytgmjolngnhdafaa.P
open Go.RowKit Go.Proofs.YtgmjolngnhdafaaW.PrintWords Go.Proofs.YtgmjolngnhdafaaW.PrintLast Go.Proofs.YtgmjolngnhdafaaW.PrintMore
attribute [local go_sem] max2_int min2_int max_two min_two max_three min_three max_four min_four
set_option linter.unusedVariables false
set_option linter.unusedSimpArgs false

set_option maxHeartbeats 8000000 in
set_option maxRecDepth 100000 in
theorem spec_l11Fits.calls (k : Nat) (A0 : Option Addr) (c0 : Nat) (l0 : List (S38)) (a1_0 : Bool) (A1_1 : Option Addr) (c1_1 : Nat) (l1_1 : List Int) (A1_2 : Option Addr) (c1_2 : Nat) (l1_2 : List Int) (a2_0 : Bool) (A2_1 : Option Addr) (c2_1 : Nat) (l2_1 : List Int) (A2_2 : Option Addr) (c2_2 : Nat) (l2_2 : List Int) (r : Bool) (w : World) (hr0 : Kd.C k38 w A0 l0.length l0) (hc0 : l0.length ≤ c0) (hr1_1 : Kd.C (Kd.int .i64) w A1_1 l1_1.length l1_1) (hc1_1 : l1_1.length ≤ c1_1) (hr1_2 : Kd.C (Kd.int .i64) w A1_2 l1_2.length l1_2) (hc1_2 : l1_2.length ≤ c1_2) (hr2_1 : Kd.C (Kd.int .i64) w A2_1 l2_1.length l2_1) (hc2_1 : l2_1.length ≤ c2_1) (hr2_2 : Kd.C (Kd.int .i64) w A2_2 l2_2.length l2_2) (hc2_2 : l2_2.length ≤ c2_2) (h : spec_l11Fits.f k l0 a1_0 l1_1 l1_2 a2_0 l2_1 l2_2 = some r) :
    Calls Try.prog 83 #[.slice A0 l0.length c0, .agg #[.bool a1_0, .slice A1_1 l1_1.length c1_1, .slice A1_2 l1_2.length c1_2], .agg #[.bool a2_0, .slice A2_1 l2_1.length c2_1, .slice A2_2 l2_2.length c2_2]] w fun e w' => e = .returned (.bool r) ∧ Below w.heap.size w w' := by
  have hu52 := Try.underlying52
  have HR0 := Aside0.mk hr0
  have HC0 := Aside0.mk hc0
  clear hr0 hc0
  have HR1_1 := Aside0.mk hr1_1
  have HC1_1 := Aside0.mk hc1_1
  clear hr1_1 hc1_1
  have HR1_2 := Aside0.mk hr1_2
  have HC1_2 := Aside0.mk hc1_2
  clear hr1_2 hc1_2
  have HR2_1 := Aside0.mk hr2_1
  have HC2_1 := Aside0.mk hc2_1
  clear hr2_1 hc2_1
  have HR2_2 := Aside0.mk hr2_2
  have HC2_2 := Aside0.mk hc2_2
  clear hr2_2 hc2_2
  have HB := Aside0.mk (Below.refl w.heap.size w)
  have H : (if a1_0 = true then (if a2_0 = true then ((spec_ShapeOk.f k l0 (l1_1.length : Int) a1_0 l1_1 l1_2).bind fun t492 => (if t492 = true then ((spec_ShapeOk.f k l0 (l1_1.length : Int) a2_0 l2_1 l2_2).bind fun t493 => (if t493 = true then (some ((l1_2.length : Int) == (l2_2.length : Int))) else (some false))) else (some false))) else (some false)) else (some false)) = some r := h
  clear h
  by_cases c4 : a1_0 = true
  · subst c4
    have H1 : (if a2_0 = true then ((spec_ShapeOk.f k l0 (l1_1.length : Int) true l1_1 l1_2).bind fun t492 => (if t492 = true then ((spec_ShapeOk.f k l0 (l1_1.length : Int) a2_0 l2_1 l2_2).bind fun t493 => (if t493 = true then (some ((l1_2.length : Int) == (l2_2.length : Int))) else (some false))) else (some false))) else (some false)) = some r := by rw [if_pos rfl] at H; exact H
    clear H
    have H := H1
    clear H1
    by_cases c5 : a2_0 = true
    · subst c5
      have H1 : ((spec_ShapeOk.f k l0 (l1_1.length : Int) true l1_1 l1_2).bind fun t492 => (if t492 = true then ((spec_ShapeOk.f k l0 (l1_1.length : Int) true l2_1 l2_2).bind fun t493 => (if t493 = true then (some ((l1_2.length : Int) == (l2_2.length : Int))) else (some false))) else (some false))) = some r := by rw [if_pos rfl] at H; exact H
      clear H
      have H := H1
      clear H1
      replace H := Option.bind_eq_some_iff.mp H
      obtain ⟨t492, A60, H⟩ := H
      replace H : (if t492 = true then ((spec_ShapeOk.f k l0 (l1_1.length : Int) true l2_1 l2_2).bind fun t493 => (if t493 = true then (some ((l1_2.length : Int) == (l2_2.length : Int))) else (some false))) else (some false)) = some r := H
      have A6 := Aside0.mk A60
      clear A60
      by_cases c7 : t492 = true
      · subst c7
        have H1 : ((spec_ShapeOk.f k l0 (l1_1.length : Int) true l2_1 l2_2).bind fun t493 => (if t493 = true then (some ((l1_2.length : Int) == (l2_2.length : Int))) else (some false))) = some r := by rw [if_pos rfl] at H; exact H
        clear H
        have H := H1
        clear H1
        replace H := Option.bind_eq_some_iff.mp H
        obtain ⟨t493, A80, H⟩ := H
        replace H : (if t493 = true then (some ((l1_2.length : Int) == (l2_2.length : Int))) else (some false)) = some r := H
        have A8 := Aside0.mk A80
        clear A80
        by_cases c9 : t493 = true
        · subst c9
          have H1 : (some ((l1_2.length : Int) == (l2_2.length : Int))) = some r := by rw [if_pos rfl] at H; exact H
          clear H
          have H := H1
          clear H1
          obtain rfl := Option.some.inj H
          go_enter Try.func83, Try.ntmps83
          go_wp2_with (first | ((with_reducible refine gate_dst (N := 4) rfl ?_); (try (refine gate_guard (by rfl) ?_; dsimp only)); refine box_event ?hg (N := 4) ?hd (cs := #[.bool true, .slice A1_1 l1_1.length c1_1, .slice A1_2 l1_2.length c1_2]) (t := 52) ?hr ?_; (case hd => rfl); (case hg => rfl); (case hr => first | (go_simp; done) | (go_simp; rfl)); intro gb490 hg w10 hbox hb; have n0_ := Aside0.mk (below_step (by repeat (first | (with_reducible first | exact HB.out | apply below_alloc | apply pw_below_drewN | apply below_drew1) | exact HB.out)) hb); have n1_ := Aside0.mk (hbox); have n2_ := Aside0.mk ((by rw [hg]; exact (below_size (by repeat (first | (with_reducible first | exact HB.out | apply below_alloc | apply pw_below_drewN | apply below_drew1) | exact HB.out))) : w.heap.size ≤ gb490)); have n3_ := Aside0.mk ((by rw [hg]; exact (below_size (by repeat (first | (with_reducible first | exact HB.out | apply below_alloc | apply pw_below_drewN | apply below_drew1) | exact HB.out))) : w.heap.size ≤ gb490)); clear HB; have HB := n0_; have BK490 := n1_; have GW490 := n2_; have GE490 := n3_; clear n0_ n1_ n2_ n3_; clear hb hbox hg) | ((with_reducible refine gate_dst (N := 5) rfl ?_); (try (refine gate_guard (by rfl) ?_; dsimp only)); refine box_event ?hg (N := 5) ?hd (cs := #[.bool true, .slice A2_1 l2_1.length c2_1, .slice A2_2 l2_2.length c2_2]) (t := 52) ?hr ?_; (case hd => rfl); (case hg => rfl); (case hr => first | (go_simp; done) | (go_simp; rfl)); intro gb491 hg w11 hbox hb; have n0_ := Aside0.mk (blk_below (g := gb490) (o := .cells #[.bool true, .slice A1_1 l1_1.length c1_1, .slice A1_2 l1_2.length c1_2] 52 (0, 0)) (by (with_reducible repeat (first | refine blk_drewN ?_ _ | refine blk_drew ?_ | refine blk_alloc ?_ _)); exact BK490.out) hb); have n1_ := Aside0.mk (below_step (by repeat (first | (with_reducible first | exact HB.out | apply below_alloc | apply pw_below_drewN | apply below_drew1 | refine below_set ?_ GE490.out) | exact HB.out)) hb); have n2_ := Aside0.mk (hbox); have n3_ := Aside0.mk ((by rw [hg]; exact (below_size (by repeat (first | (with_reducible first | exact HB.out | apply below_alloc | apply pw_below_drewN | apply below_drew1 | refine below_set ?_ GE490.out) | exact HB.out))) : w.heap.size ≤ gb491)); have n4_ := Aside0.mk ((by rw [hg]; exact (below_size (by repeat (first | (with_reducible first | exact HB.out | apply below_alloc | apply pw_below_drewN | apply below_drew1 | refine below_set ?_ GE490.out) | exact HB.out))) : w.heap.size ≤ gb491)); have n5_ := Aside0.mk ((by rw [hg]; exact Nat.ne_of_lt (blk_lt (g := gb490) (o := .cells #[.bool true, .slice A1_1 l1_1.length c1_1, .slice A1_2 l1_2.length c1_2] 52 (0, 0)) (by (with_reducible repeat (first | refine blk_drewN ?_ _ | refine blk_drew ?_ | refine blk_alloc ?_ _)); exact BK490.out)) : gb490 ≠ gb491)); have n6_ := Aside0.mk ((by rw [hg]; exact Nat.ne_of_gt (blk_lt (g := gb490) (o := .cells #[.bool true, .slice A1_1 l1_1.length c1_1, .slice A1_2 l1_2.length c1_2] 52 (0, 0)) (by (with_reducible repeat (first | refine blk_drewN ?_ _ | refine blk_drew ?_ | refine blk_alloc ?_ _)); exact BK490.out)) : gb491 ≠ gb490)); clear BK490; clear HB; have BK490 := n0_; have HB := n1_; have BK491 := n2_; have GW491 := n3_; have GE491 := n4_; have NB490_491 := n5_; have NB491_490 := n6_; clear n0_ n1_ n2_ n3_ n4_ n5_ n6_; clear hb hbox hg; have hnb12 := NB490_491.out; have hnc12 := NB491_490.out; have hcz13_0 : w11.cell? ⟨gb490, 0, none⟩ = some (.bool true) := (blk_cell BK490.out 0).trans rfl; have hcz13_1 : w11.cell? ⟨gb490, 1, none⟩ = some (.slice A1_1 l1_1.length c1_1) := (blk_cell BK490.out 1).trans rfl; have hcz13_2 : w11.cell? ⟨gb490, 2, none⟩ = some (.slice A1_2 l1_2.length c1_2) := (blk_cell BK490.out 2).trans rfl; have hfz13_0 := blk_frozen BK490.out 0; have hfz13_1 := blk_frozen BK490.out 1; have hfz13_2 := blk_frozen BK490.out 2; have hcz14_0 : w11.cell? ⟨gb491, 0, none⟩ = some (.bool true) := (blk_cell BK491.out 0).trans rfl; have hcz14_1 : w11.cell? ⟨gb491, 1, none⟩ = some (.slice A2_1 l2_1.length c2_1) := (blk_cell BK491.out 1).trans rfl; have hcz14_2 : w11.cell? ⟨gb491, 2, none⟩ = some (.slice A2_2 l2_2.length c2_2) := (blk_cell BK491.out 2).trans rfl; have hfz14_0 := blk_frozen BK491.out 0; have hfz14_1 := blk_frozen BK491.out 1; have hfz14_2 := blk_frozen BK491.out 2) | (go_at_call 46; (with_reducible refine (spec_ShapeOk.calls k _ _ l0 (l1_1.length : Int) true _ _ l1_1 _ _ l1_2 true _ ?side1 ?side2 ?side3 ?side4 ?side5 ?side6 A6.out).mono ?_); (case side1 => repeat (first | exact (Kd.C_below HR0.out HB.out) | (with_reducible refine Kd.C_alloc ?_ _) | (with_reducible refine Kd.C_drewN ?_ _) | (with_reducible refine Kd.C_drew ?_))); (case side2 => exact HC0.out); (case side3 => repeat (first | exact (Kd.C_below HR1_1.out HB.out) | (with_reducible refine Kd.C_alloc ?_ _) | (with_reducible refine Kd.C_drewN ?_ _) | (with_reducible refine Kd.C_drew ?_))); (case side4 => exact HC1_1.out); (case side5 => repeat (first | exact (Kd.C_below HR1_2.out HB.out) | (with_reducible refine Kd.C_alloc ?_ _) | (with_reducible refine Kd.C_drewN ?_ _) | (with_reducible refine Kd.C_drew ?_))); (case side6 => exact HC1_2.out); rintro e w15 ⟨rfl, hb⟩; have n0_ := Aside0.mk (blk_below (g := gb490) (o := .cells #[.bool true, .slice A1_1 l1_1.length c1_1, .slice A1_2 l1_2.length c1_2] 52 (0, 0)) (by (with_reducible repeat (first | refine blk_drewN ?_ _ | refine blk_drew ?_ | refine blk_alloc ?_ _)); exact BK490.out) hb); have n1_ := Aside0.mk (blk_below (g := gb491) (o := .cells #[.bool true, .slice A2_1 l2_1.length c2_1, .slice A2_2 l2_2.length c2_2] 52 (0, 0)) (by (with_reducible repeat (first | refine blk_drewN ?_ _ | refine blk_drew ?_ | refine blk_alloc ?_ _)); exact BK491.out) hb); have n2_ := Aside0.mk (below_step (by repeat (first | (with_reducible first | exact HB.out | apply below_alloc | apply pw_below_drewN | apply below_drew1 | refine below_set ?_ GE490.out | refine below_set ?_ GE491.out) | exact HB.out)) hb); clear BK490; clear BK491; clear HB; have BK490 := n0_; have BK491 := n1_; have HB := n2_; clear n0_ n1_ n2_; (try clear hb); (try clear hb2); (try clear hk); (try clear hi); have hcz16_0 : w15.cell? ⟨gb490, 0, none⟩ = some (.bool true) := (blk_cell BK490.out 0).trans rfl; have hcz16_1 : w15.cell? ⟨gb490, 1, none⟩ = some (.slice A1_1 l1_1.length c1_1) := (blk_cell BK490.out 1).trans rfl; have hcz16_2 : w15.cell? ⟨gb490, 2, none⟩ = some (.slice A1_2 l1_2.length c1_2) := (blk_cell BK490.out 2).trans rfl; have hfz16_0 := blk_frozen BK490.out 0; have hfz16_1 := blk_frozen BK490.out 1; have hfz16_2 := blk_frozen BK490.out 2; have hcz17_0 : w15.cell? ⟨gb491, 0, none⟩ = some (.bool true) := (blk_cell BK491.out 0).trans rfl; have hcz17_1 : w15.cell? ⟨gb491, 1, none⟩ = some (.slice A2_1 l2_1.length c2_1) := (blk_cell BK491.out 1).trans rfl; have hcz17_2 : w15.cell? ⟨gb491, 2, none⟩ = some (.slice A2_2 l2_2.length c2_2) := (blk_cell BK491.out 2).trans rfl; have hfz17_0 := blk_frozen BK491.out 0; have hfz17_1 := blk_frozen BK491.out 1; have hfz17_2 := blk_frozen BK491.out 2) | (go_at_call 46; (with_reducible refine (spec_ShapeOk.calls k _ _ l0 (l1_1.length : Int) true _ _ l2_1 _ _ l2_2 true _ ?side1 ?side2 ?side3 ?side4 ?side5 ?side6 A8.out).mono ?_); (case side1 => repeat (first | exact (Kd.C_below HR0.out HB.out) | (with_reducible refine Kd.C_alloc ?_ _) | (with_reducible refine Kd.C_drewN ?_ _) | (with_reducible refine Kd.C_drew ?_))); (case side2 => exact HC0.out); (case side3 => repeat (first | exact (Kd.C_below HR2_1.out HB.out) | (with_reducible refine Kd.C_alloc ?_ _) | (with_reducible refine Kd.C_drewN ?_ _) | (with_reducible refine Kd.C_drew ?_))); (case side4 => exact HC2_1.out); (case side5 => repeat (first | exact (Kd.C_below HR2_2.out HB.out) | (with_reducible refine Kd.C_alloc ?_ _) | (with_reducible refine Kd.C_drewN ?_ _) | (with_reducible refine Kd.C_drew ?_))); (case side6 => exact HC2_2.out); rintro e w18 ⟨rfl, hb⟩; have n0_ := Aside0.mk (blk_below (g := gb490) (o := .cells #[.bool true, .slice A1_1 l1_1.length c1_1, .slice A1_2 l1_2.length c1_2] 52 (0, 0)) (by (with_reducible repeat (first | refine blk_drewN ?_ _ | refine blk_drew ?_ | refine blk_alloc ?_ _)); exact BK490.out) hb); have n1_ := Aside0.mk (blk_below (g := gb491) (o := .cells #[.bool true, .slice A2_1 l2_1.length c2_1, .slice A2_2 l2_2.length c2_2] 52 (0, 0)) (by (with_reducible repeat (first | refine blk_drewN ?_ _ | refine blk_drew ?_ | refine blk_alloc ?_ _)); exact BK491.out) hb); have n2_ := Aside0.mk (below_step (by repeat (first | (with_reducible first | exact HB.out | apply below_alloc | apply pw_below_drewN | apply below_drew1 | refine below_set ?_ GE490.out | refine below_set ?_ GE491.out) | exact HB.out)) hb); clear BK490; clear BK491; clear HB; have BK490 := n0_; have BK491 := n1_; have HB := n2_; clear n0_ n1_ n2_; (try clear hb); (try clear hb2); (try clear hk); (try clear hi); have hcz19_0 : w18.cell? ⟨gb490, 0, none⟩ = some (.bool true) := (blk_cell BK490.out 0).trans rfl; have hcz19_1 : w18.cell? ⟨gb490, 1, none⟩ = some (.slice A1_1 l1_1.length c1_1) := (blk_cell BK490.out 1).trans rfl; have hcz19_2 : w18.cell? ⟨gb490, 2, none⟩ = some (.slice A1_2 l1_2.length c1_2) := (blk_cell BK490.out 2).trans rfl; have hfz19_0 := blk_frozen BK490.out 0; have hfz19_1 := blk_frozen BK490.out 1; have hfz19_2 := blk_frozen BK490.out 2; have hcz20_0 : w18.cell? ⟨gb491, 0, none⟩ = some (.bool true) := (blk_cell BK491.out 0).trans rfl; have hcz20_1 : w18.cell? ⟨gb491, 1, none⟩ = some (.slice A2_1 l2_1.length c2_1) := (blk_cell BK491.out 1).trans rfl; have hcz20_2 : w18.cell? ⟨gb491, 2, none⟩ = some (.slice A2_2 l2_2.length c2_2) := (blk_cell BK491.out 2).trans rfl; have hfz20_0 := blk_frozen BK491.out 0; have hfz20_1 := blk_frozen BK491.out 1; have hfz20_2 := blk_frozen BK491.out 2))
          go_ret
          exact ⟨by first | rfl | (simp [errW_none, errW_some] <;> rfl) | (simp [*, errW_none, errW_some] <;> rfl), by repeat (first | (with_reducible first | exact HB.out | apply below_alloc | apply pw_below_drewN | apply below_drew1 | refine below_set ?_ GE490.out | refine below_set ?_ GE491.out) | exact HB.out)⟩
        · replace c9 := Bool.eq_false_iff.mpr c9
          subst c9
          have H1 : (some false) = some r := by rw [if_neg (show ¬ (false = true) by decide)] at H; exact H
          clear H
          have H := H1
          clear H1
          obtain rfl := Option.some.inj H
          go_enter Try.func83, Try.ntmps83
          go_wp2_with (first | ((with_reducible refine gate_dst (N := 4) rfl ?_); (try (refine gate_guard (by rfl) ?_; dsimp only)); refine box_event ?hg (N := 4) ?hd (cs := #[.bool true, .slice A1_1 l1_1.length c1_1, .slice A1_2 l1_2.length c1_2]) (t := 52) ?hr ?_; (case hd => rfl); (case hg => rfl); (case hr => first | (go_simp; done) | (go_simp; rfl)); intro gb490 hg w21 hbox hb; have n0_ := Aside0.mk (below_step (by repeat (first | (with_reducible first | exact HB.out | apply below_alloc | apply pw_below_drewN | apply below_drew1) | exact HB.out)) hb); have n1_ := Aside0.mk (hbox); have n2_ := Aside0.mk ((by rw [hg]; exact (below_size (by repeat (first | (with_reducible first | exact HB.out | apply below_alloc | apply pw_below_drewN | apply below_drew1) | exact HB.out))) : w.heap.size ≤ gb490)); have n3_ := Aside0.mk ((by rw [hg]; exact (below_size (by repeat (first | (with_reducible first | exact HB.out | apply below_alloc | apply pw_below_drewN | apply below_drew1) | exact HB.out))) : w.heap.size ≤ gb490)); clear HB; have HB := n0_; have BK490 := n1_; have GW490 := n2_; have GE490 := n3_; clear n0_ n1_ n2_ n3_; clear hb hbox hg) | ((with_reducible refine gate_dst (N := 5) rfl ?_); (try (refine gate_guard (by rfl) ?_; dsimp only)); refine box_event ?hg (N := 5) ?hd (cs := #[.bool true, .slice A2_1 l2_1.length c2_1, .slice A2_2 l2_2.length c2_2]) (t := 52) ?hr ?_; (case hd => rfl); (case hg => rfl); (case hr => first | (go_simp; done) | (go_simp; rfl)); intro gb491 hg w22 hbox hb; have n0_ := Aside0.mk (blk_below (g := gb490) (o := .cells #[.bool true, .slice A1_1 l1_1.length c1_1, .slice A1_2 l1_2.length c1_2] 52 (0, 0)) (by (with_reducible repeat (first | refine blk_drewN ?_ _ | refine blk_drew ?_ | refine blk_alloc ?_ _)); exact BK490.out) hb); have n1_ := Aside0.mk (below_step (by repeat (first | (with_reducible first | exact HB.out | apply below_alloc | apply pw_below_drewN | apply below_drew1 | refine below_set ?_ GE490.out) | exact HB.out)) hb); have n2_ := Aside0.mk (hbox); have n3_ := Aside0.mk ((by rw [hg]; exact (below_size (by repeat (first | (with_reducible first | exact HB.out | apply below_alloc | apply pw_below_drewN | apply below_drew1 | refine below_set ?_ GE490.out) | exact HB.out))) : w.heap.size ≤ gb491)); have n4_ := Aside0.mk ((by rw [hg]; exact (below_size (by repeat (first | (with_reducible first | exact HB.out | apply below_alloc | apply pw_below_drewN | apply below_drew1 | refine below_set ?_ GE490.out) | exact HB.out))) : w.heap.size ≤ gb491)); have n5_ := Aside0.mk ((by rw [hg]; exact Nat.ne_of_lt (blk_lt (g := gb490) (o := .cells #[.bool true, .slice A1_1 l1_1.length c1_1, .slice A1_2 l1_2.length c1_2] 52 (0, 0)) (by (with_reducible repeat (first | refine blk_drewN ?_ _ | refine blk_drew ?_ | refine blk_alloc ?_ _)); exact BK490.out)) : gb490 ≠ gb491)); have n6_ := Aside0.mk ((by rw [hg]; exact Nat.ne_of_gt (blk_lt (g := gb490) (o := .cells #[.bool true, .slice A1_1 l1_1.length c1_1, .slice A1_2 l1_2.length c1_2] 52 (0, 0)) (by (with_reducible repeat (first | refine blk_drewN ?_ _ | refine blk_drew ?_ | refine blk_alloc ?_ _)); exact BK490.out)) : gb491 ≠ gb490)); clear BK490; clear HB; have BK490 := n0_; have HB := n1_; have BK491 := n2_; have GW491 := n3_; have GE491 := n4_; have NB490_491 := n5_; have NB491_490 := n6_; clear n0_ n1_ n2_ n3_ n4_ n5_ n6_; clear hb hbox hg; have hnb23 := NB490_491.out; have hnc23 := NB491_490.out; have hcz24_0 : w22.cell? ⟨gb490, 0, none⟩ = some (.bool true) := (blk_cell BK490.out 0).trans rfl; have hcz24_1 : w22.cell? ⟨gb490, 1, none⟩ = some (.slice A1_1 l1_1.length c1_1) := (blk_cell BK490.out 1).trans rfl; have hcz24_2 : w22.cell? ⟨gb490, 2, none⟩ = some (.slice A1_2 l1_2.length c1_2) := (blk_cell BK490.out 2).trans rfl; have hfz24_0 := blk_frozen BK490.out 0; have hfz24_1 := blk_frozen BK490.out 1; have hfz24_2 := blk_frozen BK490.out 2; have hcz25_0 : w22.cell? ⟨gb491, 0, none⟩ = some (.bool true) := (blk_cell BK491.out 0).trans rfl; have hcz25_1 : w22.cell? ⟨gb491, 1, none⟩ = some (.slice A2_1 l2_1.length c2_1) := (blk_cell BK491.out 1).trans rfl; have hcz25_2 : w22.cell? ⟨gb491, 2, none⟩ = some (.slice A2_2 l2_2.length c2_2) := (blk_cell BK491.out 2).trans rfl; have hfz25_0 := blk_frozen BK491.out 0; have hfz25_1 := blk_frozen BK491.out 1; have hfz25_2 := blk_frozen BK491.out 2) | (go_at_call 46; (with_reducible refine (spec_ShapeOk.calls k _ _ l0 (l1_1.length : Int) true _ _ l1_1 _ _ l1_2 true _ ?side1 ?side2 ?side3 ?side4 ?side5 ?side6 A6.out).mono ?_); (case side1 => repeat (first | exact (Kd.C_below HR0.out HB.out) | (with_reducible refine Kd.C_alloc ?_ _) | (with_reducible refine Kd.C_drewN ?_ _) | (with_reducible refine Kd.C_drew ?_))); (case side2 => exact HC0.out); (case side3 => repeat (first | exact (Kd.C_below HR1_1.out HB.out) | (with_reducible refine Kd.C_alloc ?_ _) | (with_reducible refine Kd.C_drewN ?_ _) | (with_reducible refine Kd.C_drew ?_))); (case side4 => exact HC1_1.out); (case side5 => repeat (first | exact (Kd.C_below HR1_2.out HB.out) | (with_reducible refine Kd.C_alloc ?_ _) | (with_reducible refine Kd.C_drewN ?_ _) | (with_reducible refine Kd.C_drew ?_))); (case side6 => exact HC1_2.out); rintro e w26 ⟨rfl, hb⟩; have n0_ := Aside0.mk (blk_below (g := gb490) (o := .cells #[.bool true, .slice A1_1 l1_1.length c1_1, .slice A1_2 l1_2.length c1_2] 52 (0, 0)) (by (with_reducible repeat (first | refine blk_drewN ?_ _ | refine blk_drew ?_ | refine blk_alloc ?_ _)); exact BK490.out) hb); have n1_ := Aside0.mk (blk_below (g := gb491) (o := .cells #[.bool true, .slice A2_1 l2_1.length c2_1, .slice A2_2 l2_2.length c2_2] 52 (0, 0)) (by (with_reducible repeat (first | refine blk_drewN ?_ _ | refine blk_drew ?_ | refine blk_alloc ?_ _)); exact BK491.out) hb); have n2_ := Aside0.mk (below_step (by repeat (first | (with_reducible first | exact HB.out | apply below_alloc | apply pw_below_drewN | apply below_drew1 | refine below_set ?_ GE490.out | refine below_set ?_ GE491.out) | exact HB.out)) hb); clear BK490; clear BK491; clear HB; have BK490 := n0_; have BK491 := n1_; have HB := n2_; clear n0_ n1_ n2_; (try clear hb); (try clear hb2); (try clear hk); (try clear hi); have hcz27_0 : w26.cell? ⟨gb490, 0, none⟩ = some (.bool true) := (blk_cell BK490.out 0).trans rfl; have hcz27_1 : w26.cell? ⟨gb490, 1, none⟩ = some (.slice A1_1 l1_1.length c1_1) := (blk_cell BK490.out 1).trans rfl; have hcz27_2 : w26.cell? ⟨gb490, 2, none⟩ = some (.slice A1_2 l1_2.length c1_2) := (blk_cell BK490.out 2).trans rfl; have hfz27_0 := blk_frozen BK490.out 0; have hfz27_1 := blk_frozen BK490.out 1; have hfz27_2 := blk_frozen BK490.out 2; have hcz28_0 : w26.cell? ⟨gb491, 0, none⟩ = some (.bool true) := (blk_cell BK491.out 0).trans rfl; have hcz28_1 : w26.cell? ⟨gb491, 1, none⟩ = some (.slice A2_1 l2_1.length c2_1) := (blk_cell BK491.out 1).trans rfl; have hcz28_2 : w26.cell? ⟨gb491, 2, none⟩ = some (.slice A2_2 l2_2.length c2_2) := (blk_cell BK491.out 2).trans rfl; have hfz28_0 := blk_frozen BK491.out 0; have hfz28_1 := blk_frozen BK491.out 1; have hfz28_2 := blk_frozen BK491.out 2) | (go_at_call 46; (with_reducible refine (spec_ShapeOk.calls k _ _ l0 (l1_1.length : Int) true _ _ l2_1 _ _ l2_2 false _ ?side1 ?side2 ?side3 ?side4 ?side5 ?side6 A8.out).mono ?_); (case side1 => repeat (first | exact (Kd.C_below HR0.out HB.out) | (with_reducible refine Kd.C_alloc ?_ _) | (with_reducible refine Kd.C_drewN ?_ _) | (with_reducible refine Kd.C_drew ?_))); (case side2 => exact HC0.out); (case side3 => repeat (first | exact (Kd.C_below HR2_1.out HB.out) | (with_reducible refine Kd.C_alloc ?_ _) | (with_reducible refine Kd.C_drewN ?_ _) | (with_reducible refine Kd.C_drew ?_))); (case side4 => exact HC2_1.out); (case side5 => repeat (first | exact (Kd.C_below HR2_2.out HB.out) | (with_reducible refine Kd.C_alloc ?_ _) | (with_reducible refine Kd.C_drewN ?_ _) | (with_reducible refine Kd.C_drew ?_))); (case side6 => exact HC2_2.out); rintro e w29 ⟨rfl, hb⟩; have n0_ := Aside0.mk (blk_below (g := gb490) (o := .cells #[.bool true, .slice A1_1 l1_1.length c1_1, .slice A1_2 l1_2.length c1_2] 52 (0, 0)) (by (with_reducible repeat (first | refine blk_drewN ?_ _ | refine blk_drew ?_ | refine blk_alloc ?_ _)); exact BK490.out) hb); have n1_ := Aside0.mk (blk_below (g := gb491) (o := .cells #[.bool true, .slice A2_1 l2_1.length c2_1, .slice A2_2 l2_2.length c2_2] 52 (0, 0)) (by (with_reducible repeat (first | refine blk_drewN ?_ _ | refine blk_drew ?_ | refine blk_alloc ?_ _)); exact BK491.out) hb); have n2_ := Aside0.mk (below_step (by repeat (first | (with_reducible first | exact HB.out | apply below_alloc | apply pw_below_drewN | apply below_drew1 | refine below_set ?_ GE490.out | refine below_set ?_ GE491.out) | exact HB.out)) hb); clear BK490; clear BK491; clear HB; have BK490 := n0_; have BK491 := n1_; have HB := n2_; clear n0_ n1_ n2_; (try clear hb); (try clear hb2); (try clear hk); (try clear hi)))
          go_ret
          exact ⟨by first | rfl | (simp [errW_none, errW_some] <;> rfl) | (simp [*, errW_none, errW_some] <;> rfl), by repeat (first | (with_reducible first | exact HB.out | apply below_alloc | apply pw_below_drewN | apply below_drew1 | refine below_set ?_ GE490.out | refine below_set ?_ GE491.out) | exact HB.out)⟩
      · replace c7 := Bool.eq_false_iff.mpr c7
        subst c7
        have H1 : (some false) = some r := by rw [if_neg (show ¬ (false = true) by decide)] at H; exact H
        clear H
        have H := H1
        clear H1
        obtain rfl := Option.some.inj H
        go_enter Try.func83, Try.ntmps83
        go_wp2_with (first | ((with_reducible refine gate_dst (N := 4) rfl ?_); (try (refine gate_guard (by rfl) ?_; dsimp only)); refine box_event ?hg (N := 4) ?hd (cs := #[.bool true, .slice A1_1 l1_1.length c1_1, .slice A1_2 l1_2.length c1_2]) (t := 52) ?hr ?_; (case hd => rfl); (case hg => rfl); (case hr => first | (go_simp; done) | (go_simp; rfl)); intro gb490 hg w30 hbox hb; have n0_ := Aside0.mk (below_step (by repeat (first | (with_reducible first | exact HB.out | apply below_alloc | apply pw_below_drewN | apply below_drew1) | exact HB.out)) hb); have n1_ := Aside0.mk (hbox); have n2_ := Aside0.mk ((by rw [hg]; exact (below_size (by repeat (first | (with_reducible first | exact HB.out | apply below_alloc | apply pw_below_drewN | apply below_drew1) | exact HB.out))) : w.heap.size ≤ gb490)); have n3_ := Aside0.mk ((by rw [hg]; exact (below_size (by repeat (first | (with_reducible first | exact HB.out | apply below_alloc | apply pw_below_drewN | apply below_drew1) | exact HB.out))) : w.heap.size ≤ gb490)); clear HB; have HB := n0_; have BK490 := n1_; have GW490 := n2_; have GE490 := n3_; clear n0_ n1_ n2_ n3_; clear hb hbox hg) | ((with_reducible refine gate_dst (N := 5) rfl ?_); (try (refine gate_guard (by rfl) ?_; dsimp only)); refine box_event ?hg (N := 5) ?hd (cs := #[.bool true, .slice A2_1 l2_1.length c2_1, .slice A2_2 l2_2.length c2_2]) (t := 52) ?hr ?_; (case hd => rfl); (case hg => rfl); (case hr => first | (go_simp; done) | (go_simp; rfl)); intro gb491 hg w31 hbox hb; have n0_ := Aside0.mk (blk_below (g := gb490) (o := .cells #[.bool true, .slice A1_1 l1_1.length c1_1, .slice A1_2 l1_2.length c1_2] 52 (0, 0)) (by (with_reducible repeat (first | refine blk_drewN ?_ _ | refine blk_drew ?_ | refine blk_alloc ?_ _)); exact BK490.out) hb); have n1_ := Aside0.mk (below_step (by repeat (first | (with_reducible first | exact HB.out | apply below_alloc | apply pw_below_drewN | apply below_drew1 | refine below_set ?_ GE490.out) | exact HB.out)) hb); have n2_ := Aside0.mk (hbox); have n3_ := Aside0.mk ((by rw [hg]; exact (below_size (by repeat (first | (with_reducible first | exact HB.out | apply below_alloc | apply pw_below_drewN | apply below_drew1 | refine below_set ?_ GE490.out) | exact HB.out))) : w.heap.size ≤ gb491)); have n4_ := Aside0.mk ((by rw [hg]; exact (below_size (by repeat (first | (with_reducible first | exact HB.out | apply below_alloc | apply pw_below_drewN | apply below_drew1 | refine below_set ?_ GE490.out) | exact HB.out))) : w.heap.size ≤ gb491)); have n5_ := Aside0.mk ((by rw [hg]; exact Nat.ne_of_lt (blk_lt (g := gb490) (o := .cells #[.bool true, .slice A1_1 l1_1.length c1_1, .slice A1_2 l1_2.length c1_2] 52 (0, 0)) (by (with_reducible repeat (first | refine blk_drewN ?_ _ | refine blk_drew ?_ | refine blk_alloc ?_ _)); exact BK490.out)) : gb490 ≠ gb491)); have n6_ := Aside0.mk ((by rw [hg]; exact Nat.ne_of_gt (blk_lt (g := gb490) (o := .cells #[.bool true, .slice A1_1 l1_1.length c1_1, .slice A1_2 l1_2.length c1_2] 52 (0, 0)) (by (with_reducible repeat (first | refine blk_drewN ?_ _ | refine blk_drew ?_ | refine blk_alloc ?_ _)); exact BK490.out)) : gb491 ≠ gb490)); clear BK490; clear HB; have BK490 := n0_; have HB := n1_; have BK491 := n2_; have GW491 := n3_; have GE491 := n4_; have NB490_491 := n5_; have NB491_490 := n6_; clear n0_ n1_ n2_ n3_ n4_ n5_ n6_; clear hb hbox hg; have hnb32 := NB490_491.out; have hnc32 := NB491_490.out; have hcz33_0 : w31.cell? ⟨gb490, 0, none⟩ = some (.bool true) := (blk_cell BK490.out 0).trans rfl; have hcz33_1 : w31.cell? ⟨gb490, 1, none⟩ = some (.slice A1_1 l1_1.length c1_1) := (blk_cell BK490.out 1).trans rfl; have hcz33_2 : w31.cell? ⟨gb490, 2, none⟩ = some (.slice A1_2 l1_2.length c1_2) := (blk_cell BK490.out 2).trans rfl; have hfz33_0 := blk_frozen BK490.out 0; have hfz33_1 := blk_frozen BK490.out 1; have hfz33_2 := blk_frozen BK490.out 2; have hcz34_0 : w31.cell? ⟨gb491, 0, none⟩ = some (.bool true) := (blk_cell BK491.out 0).trans rfl; have hcz34_1 : w31.cell? ⟨gb491, 1, none⟩ = some (.slice A2_1 l2_1.length c2_1) := (blk_cell BK491.out 1).trans rfl; have hcz34_2 : w31.cell? ⟨gb491, 2, none⟩ = some (.slice A2_2 l2_2.length c2_2) := (blk_cell BK491.out 2).trans rfl; have hfz34_0 := blk_frozen BK491.out 0; have hfz34_1 := blk_frozen BK491.out 1; have hfz34_2 := blk_frozen BK491.out 2) | (go_at_call 46; (with_reducible refine (spec_ShapeOk.calls k _ _ l0 (l1_1.length : Int) true _ _ l1_1 _ _ l1_2 false _ ?side1 ?side2 ?side3 ?side4 ?side5 ?side6 A6.out).mono ?_); (case side1 => repeat (first | exact (Kd.C_below HR0.out HB.out) | (with_reducible refine Kd.C_alloc ?_ _) | (with_reducible refine Kd.C_drewN ?_ _) | (with_reducible refine Kd.C_drew ?_))); (case side2 => exact HC0.out); (case side3 => repeat (first | exact (Kd.C_below HR1_1.out HB.out) | (with_reducible refine Kd.C_alloc ?_ _) | (with_reducible refine Kd.C_drewN ?_ _) | (with_reducible refine Kd.C_drew ?_))); (case side4 => exact HC1_1.out); (case side5 => repeat (first | exact (Kd.C_below HR1_2.out HB.out) | (with_reducible refine Kd.C_alloc ?_ _) | (with_reducible refine Kd.C_drewN ?_ _) | (with_reducible refine Kd.C_drew ?_))); (case side6 => exact HC1_2.out); rintro e w35 ⟨rfl, hb⟩; have n0_ := Aside0.mk (blk_below (g := gb490) (o := .cells #[.bool true, .slice A1_1 l1_1.length c1_1, .slice A1_2 l1_2.length c1_2] 52 (0, 0)) (by (with_reducible repeat (first | refine blk_drewN ?_ _ | refine blk_drew ?_ | refine blk_alloc ?_ _)); exact BK490.out) hb); have n1_ := Aside0.mk (blk_below (g := gb491) (o := .cells #[.bool true, .slice A2_1 l2_1.length c2_1, .slice A2_2 l2_2.length c2_2] 52 (0, 0)) (by (with_reducible repeat (first | refine blk_drewN ?_ _ | refine blk_drew ?_ | refine blk_alloc ?_ _)); exact BK491.out) hb); have n2_ := Aside0.mk (below_step (by repeat (first | (with_reducible first | exact HB.out | apply below_alloc | apply pw_below_drewN | apply below_drew1 | refine below_set ?_ GE490.out | refine below_set ?_ GE491.out) | exact HB.out)) hb); clear BK490; clear BK491; clear HB; have BK490 := n0_; have BK491 := n1_; have HB := n2_; clear n0_ n1_ n2_; (try clear hb); (try clear hb2); (try clear hk); (try clear hi)))
        go_ret
        exact ⟨by first | rfl | (simp [errW_none, errW_some] <;> rfl) | (simp [*, errW_none, errW_some] <;> rfl), by repeat (first | (with_reducible first | exact HB.out | apply below_alloc | apply pw_below_drewN | apply below_drew1 | refine below_set ?_ GE490.out | refine below_set ?_ GE491.out) | exact HB.out)⟩
    · replace c5 := Bool.eq_false_iff.mpr c5
      subst c5
      have H1 : (some false) = some r := by rw [if_neg (show ¬ (false = true) by decide)] at H; exact H
      clear H
      have H := H1
      clear H1
      obtain rfl := Option.some.inj H
      go_enter Try.func83, Try.ntmps83
      go_wp2_with (first | ((with_reducible refine gate_dst (N := 4) rfl ?_); (try (refine gate_guard (by rfl) ?_; dsimp only)); refine box_event ?hg (N := 4) ?hd (cs := #[.bool true, .slice A1_1 l1_1.length c1_1, .slice A1_2 l1_2.length c1_2]) (t := 52) ?hr ?_; (case hd => rfl); (case hg => rfl); (case hr => first | (go_simp; done) | (go_simp; rfl)); intro gb490 hg w36 hbox hb; have n0_ := Aside0.mk (below_step (by repeat (first | (with_reducible first | exact HB.out | apply below_alloc | apply pw_below_drewN | apply below_drew1) | exact HB.out)) hb); have n1_ := Aside0.mk (hbox); have n2_ := Aside0.mk ((by rw [hg]; exact (below_size (by repeat (first | (with_reducible first | exact HB.out | apply below_alloc | apply pw_below_drewN | apply below_drew1) | exact HB.out))) : w.heap.size ≤ gb490)); have n3_ := Aside0.mk ((by rw [hg]; exact (below_size (by repeat (first | (with_reducible first | exact HB.out | apply below_alloc | apply pw_below_drewN | apply below_drew1) | exact HB.out))) : w.heap.size ≤ gb490)); clear HB; have HB := n0_; have BK490 := n1_; have GW490 := n2_; have GE490 := n3_; clear n0_ n1_ n2_ n3_; clear hb hbox hg) | ((with_reducible refine gate_dst (N := 5) rfl ?_); (try (refine gate_guard (by rfl) ?_; dsimp only)); refine box_event ?hg (N := 5) ?hd (cs := #[.bool false, .slice A2_1 l2_1.length c2_1, .slice A2_2 l2_2.length c2_2]) (t := 52) ?hr ?_; (case hd => rfl); (case hg => rfl); (case hr => first | (go_simp; done) | (go_simp; rfl)); intro gb491 hg w37 hbox hb; have n0_ := Aside0.mk (blk_below (g := gb490) (o := .cells #[.bool true, .slice A1_1 l1_1.length c1_1, .slice A1_2 l1_2.length c1_2] 52 (0, 0)) (by (with_reducible repeat (first | refine blk_drewN ?_ _ | refine blk_drew ?_ | refine blk_alloc ?_ _)); exact BK490.out) hb); have n1_ := Aside0.mk (below_step (by repeat (first | (with_reducible first | exact HB.out | apply below_alloc | apply pw_below_drewN | apply below_drew1 | refine below_set ?_ GE490.out) | exact HB.out)) hb); have n2_ := Aside0.mk (hbox); have n3_ := Aside0.mk ((by rw [hg]; exact (below_size (by repeat (first | (with_reducible first | exact HB.out | apply below_alloc | apply pw_below_drewN | apply below_drew1 | refine below_set ?_ GE490.out) | exact HB.out))) : w.heap.size ≤ gb491)); have n4_ := Aside0.mk ((by rw [hg]; exact (below_size (by repeat (first | (with_reducible first | exact HB.out | apply below_alloc | apply pw_below_drewN | apply below_drew1 | refine below_set ?_ GE490.out) | exact HB.out))) : w.heap.size ≤ gb491)); have n5_ := Aside0.mk ((by rw [hg]; exact Nat.ne_of_lt (blk_lt (g := gb490) (o := .cells #[.bool true, .slice A1_1 l1_1.length c1_1, .slice A1_2 l1_2.length c1_2] 52 (0, 0)) (by (with_reducible repeat (first | refine blk_drewN ?_ _ | refine blk_drew ?_ | refine blk_alloc ?_ _)); exact BK490.out)) : gb490 ≠ gb491)); have n6_ := Aside0.mk ((by rw [hg]; exact Nat.ne_of_gt (blk_lt (g := gb490) (o := .cells #[.bool true, .slice A1_1 l1_1.length c1_1, .slice A1_2 l1_2.length c1_2] 52 (0, 0)) (by (with_reducible repeat (first | refine blk_drewN ?_ _ | refine blk_drew ?_ | refine blk_alloc ?_ _)); exact BK490.out)) : gb491 ≠ gb490)); clear BK490; clear HB; have BK490 := n0_; have HB := n1_; have BK491 := n2_; have GW491 := n3_; have GE491 := n4_; have NB490_491 := n5_; have NB491_490 := n6_; clear n0_ n1_ n2_ n3_ n4_ n5_ n6_; clear hb hbox hg; have hnb38 := NB490_491.out; have hnc38 := NB491_490.out; have hcz39_0 : w37.cell? ⟨gb490, 0, none⟩ = some (.bool true) := (blk_cell BK490.out 0).trans rfl; have hcz39_1 : w37.cell? ⟨gb490, 1, none⟩ = some (.slice A1_1 l1_1.length c1_1) := (blk_cell BK490.out 1).trans rfl; have hcz39_2 : w37.cell? ⟨gb490, 2, none⟩ = some (.slice A1_2 l1_2.length c1_2) := (blk_cell BK490.out 2).trans rfl; have hfz39_0 := blk_frozen BK490.out 0; have hfz39_1 := blk_frozen BK490.out 1; have hfz39_2 := blk_frozen BK490.out 2; have hcz40_0 : w37.cell? ⟨gb491, 0, none⟩ = some (.bool false) := (blk_cell BK491.out 0).trans rfl; have hcz40_1 : w37.cell? ⟨gb491, 1, none⟩ = some (.slice A2_1 l2_1.length c2_1) := (blk_cell BK491.out 1).trans rfl; have hcz40_2 : w37.cell? ⟨gb491, 2, none⟩ = some (.slice A2_2 l2_2.length c2_2) := (blk_cell BK491.out 2).trans rfl; have hfz40_0 := blk_frozen BK491.out 0; have hfz40_1 := blk_frozen BK491.out 1; have hfz40_2 := blk_frozen BK491.out 2))
      go_ret
      exact ⟨by first | rfl | (simp [errW_none, errW_some] <;> rfl) | (simp [*, errW_none, errW_some] <;> rfl), by repeat (first | (with_reducible first | exact HB.out | apply below_alloc | apply pw_below_drewN | apply below_drew1 | refine below_set ?_ GE490.out | refine below_set ?_ GE491.out) | exact HB.out)⟩
  · replace c4 := Bool.eq_false_iff.mpr c4
    subst c4
    have H1 : (some false) = some r := by rw [if_neg (show ¬ (false = true) by decide)] at H; exact H
    clear H
    have H := H1
    clear H1
    obtain rfl := Option.some.inj H
    go_enter Try.func83, Try.ntmps83
    go_wp2_with (first | ((with_reducible refine gate_dst (N := 4) rfl ?_); (try (refine gate_guard (by rfl) ?_; dsimp only)); refine box_event ?hg (N := 4) ?hd (cs := #[.bool false, .slice A1_1 l1_1.length c1_1, .slice A1_2 l1_2.length c1_2]) (t := 52) ?hr ?_; (case hd => rfl); (case hg => rfl); (case hr => first | (go_simp; done) | (go_simp; rfl)); intro gb490 hg w41 hbox hb; have n0_ := Aside0.mk (below_step (by repeat (first | (with_reducible first | exact HB.out | apply below_alloc | apply pw_below_drewN | apply below_drew1) | exact HB.out)) hb); have n1_ := Aside0.mk (hbox); have n2_ := Aside0.mk ((by rw [hg]; exact (below_size (by repeat (first | (with_reducible first | exact HB.out | apply below_alloc | apply pw_below_drewN | apply below_drew1) | exact HB.out))) : w.heap.size ≤ gb490)); have n3_ := Aside0.mk ((by rw [hg]; exact (below_size (by repeat (first | (with_reducible first | exact HB.out | apply below_alloc | apply pw_below_drewN | apply below_drew1) | exact HB.out))) : w.heap.size ≤ gb490)); clear HB; have HB := n0_; have BK490 := n1_; have GW490 := n2_; have GE490 := n3_; clear n0_ n1_ n2_ n3_; clear hb hbox hg) | ((with_reducible refine gate_dst (N := 5) rfl ?_); (try (refine gate_guard (by rfl) ?_; dsimp only)); refine box_event ?hg (N := 5) ?hd (cs := #[.bool a2_0, .slice A2_1 l2_1.length c2_1, .slice A2_2 l2_2.length c2_2]) (t := 52) ?hr ?_; (case hd => rfl); (case hg => rfl); (case hr => first | (go_simp; done) | (go_simp; rfl)); intro gb491 hg w42 hbox hb; have n0_ := Aside0.mk (blk_below (g := gb490) (o := .cells #[.bool false, .slice A1_1 l1_1.length c1_1, .slice A1_2 l1_2.length c1_2] 52 (0, 0)) (by (with_reducible repeat (first | refine blk_drewN ?_ _ | refine blk_drew ?_ | refine blk_alloc ?_ _)); exact BK490.out) hb); have n1_ := Aside0.mk (below_step (by repeat (first | (with_reducible first | exact HB.out | apply below_alloc | apply pw_below_drewN | apply below_drew1 | refine below_set ?_ GE490.out) | exact HB.out)) hb); have n2_ := Aside0.mk (hbox); have n3_ := Aside0.mk ((by rw [hg]; exact (below_size (by repeat (first | (with_reducible first | exact HB.out | apply below_alloc | apply pw_below_drewN | apply below_drew1 | refine below_set ?_ GE490.out) | exact HB.out))) : w.heap.size ≤ gb491)); have n4_ := Aside0.mk ((by rw [hg]; exact (below_size (by repeat (first | (with_reducible first | exact HB.out | apply below_alloc | apply pw_below_drewN | apply below_drew1 | refine below_set ?_ GE490.out) | exact HB.out))) : w.heap.size ≤ gb491)); have n5_ := Aside0.mk ((by rw [hg]; exact Nat.ne_of_lt (blk_lt (g := gb490) (o := .cells #[.bool false, .slice A1_1 l1_1.length c1_1, .slice A1_2 l1_2.length c1_2] 52 (0, 0)) (by (with_reducible repeat (first | refine blk_drewN ?_ _ | refine blk_drew ?_ | refine blk_alloc ?_ _)); exact BK490.out)) : gb490 ≠ gb491)); have n6_ := Aside0.mk ((by rw [hg]; exact Nat.ne_of_gt (blk_lt (g := gb490) (o := .cells #[.bool false, .slice A1_1 l1_1.length c1_1, .slice A1_2 l1_2.length c1_2] 52 (0, 0)) (by (with_reducible repeat (first | refine blk_drewN ?_ _ | refine blk_drew ?_ | refine blk_alloc ?_ _)); exact BK490.out)) : gb491 ≠ gb490)); clear BK490; clear HB; have BK490 := n0_; have HB := n1_; have BK491 := n2_; have GW491 := n3_; have GE491 := n4_; have NB490_491 := n5_; have NB491_490 := n6_; clear n0_ n1_ n2_ n3_ n4_ n5_ n6_; clear hb hbox hg; have hnb43 := NB490_491.out; have hnc43 := NB491_490.out; have hcz44_0 : w42.cell? ⟨gb490, 0, none⟩ = some (.bool false) := (blk_cell BK490.out 0).trans rfl; have hcz44_1 : w42.cell? ⟨gb490, 1, none⟩ = some (.slice A1_1 l1_1.length c1_1) := (blk_cell BK490.out 1).trans rfl; have hcz44_2 : w42.cell? ⟨gb490, 2, none⟩ = some (.slice A1_2 l1_2.length c1_2) := (blk_cell BK490.out 2).trans rfl; have hfz44_0 := blk_frozen BK490.out 0; have hfz44_1 := blk_frozen BK490.out 1; have hfz44_2 := blk_frozen BK490.out 2))
    go_ret
    exact ⟨by first | rfl | (simp [errW_none, errW_some] <;> rfl) | (simp [*, errW_none, errW_some] <;> rfl), by repeat (first | (with_reducible first | exact HB.out | apply below_alloc | apply pw_below_drewN | apply below_drew1 | refine below_set ?_ GE490.out | refine below_set ?_ GE491.out) | exact HB.out)⟩

end Go.Proofs.Ytgmjolngnhdafaa.P

end
section
namespace Go.Proofs.Ytgmjolngnhdafaa.P
open Go.RowKit Go.Proofs.YtgmjolngnhdafaaW.PrintWords Go.Proofs.YtgmjolngnhdafaaW.PrintLast Go.Proofs.YtgmjolngnhdafaaW.PrintMore
attribute [local go_sem] max2_int min2_int max_two min_two max_three min_three max_four min_four
set_option linter.unusedVariables false
set_option linter.unusedSimpArgs false

set_option maxHeartbeats 8000000 in
set_option maxRecDepth 100000 in
theorem spec_l2Up.calls (k : Nat) (A0 : Option Addr) (c0 : Nat) (l0 : List (S38)) (a1 : Int) (a2 : Int) (r : Bool) (w : World) (hr0 : Kd.C k38 w A0 l0.length l0) (hc0 : l0.length ≤ c0) (h : spec_l2Up.f k l0 a1 a2 = some r) :
    Calls Try.prog 69 #[.slice A0 l0.length c0, .int .i64 a1, .int .i64 a2] w fun e w' => e = .returned (.bool r) ∧ Drawn0 w w' := by
  have HR0 := Aside0.mk hr0
  have HC0 := Aside0.mk hc0
  clear hr0 hc0
  have H : (spec_l2Up.l0 k l0 a1 a2) = some r := h
  clear h
  have H' := Aside0.mk H
  clear H
  go_enter Try.func69, Try.ntmps69
  go_wp2
  go_loopg [1] k (fun kq v1 w' => ∃ (x1_1 : Int), v1 = .int .i64 x1_1 ∧ Aside0 (spec_l2Up.l0 kq l0 x1_1 a2 = some r) ∧ Aside0 (kq ≤ k) ∧ Drawn0 w w')
  case atStart => exact ⟨(a1), (by first | rfl | (simp; done) | (simp [*]; done)), H', ⟨Nat.le_refl _⟩, by repeat (first | exact Drawn0.refl _ | apply Drawn0.step)⟩
  case round =>
    clear H'
    try clear p2
    obtain ⟨x1_1, rfl, HA, HK1, ⟨m1, rfl⟩⟩ := hrel
    cases gk with
    | zero => exact absurd HA.out (by simp [spec_l2Up.l0])
    | succ k1 =>
      have H := HA.out
      clear HA
      simp only [spec_l2Up.l0] at H
      by_cases c4 : x1_1 > a2
      · rw [if_pos c4] at H
        have c4b0 : decide (a2 < x1_1) = true := decide_eq_true c4
        clear c4
        by_cases c5 : 0 ≤ x1_1
        · rw [if_pos c5] at H
          have c5b0 : decide (0 ≤ x1_1) = true := decide_eq_true c5
          clear c5
          by_cases c6 : x1_1 < (l0.length : Int)
          · rw [if_pos c6] at H
            have c6b0 : decide (x1_1 < (l0.length : Int)) = true := decide_eq_true c6
            clear c6
            have H' := Aside0.mk H
            clear H
            have p242 : 0 ≤ (x1_1 : Int) := of_decide_eq_true (by first | (with_reducible assumption) | assumption)
            have q242 : x1_1 < (l0.length : Int) := of_decide_eq_true (by first | (with_reducible assumption) | assumption)
            obtain ⟨ad242, A242_1, c242_1, e242, hx242_0, hx242_1, hl242_1, hi242_1⟩ := at_T38 HR0.out x1_1 p242 q242
            cases e242
            have HR242_1 := Aside0.mk hi242_1
            have HC242_1 := Aside0.mk hl242_1
            clear hi242_1 hl242_1
            replace p242 := eq_true p242
            replace q242 := eq_true q242
            go_wp2
            go_roundg k1
            case measure => have := HK1.out; omega
            case rel => exact ⟨((rd_T38 l0 x1_1).f0), (by first | rfl | (simp; done) | (simp [*]; done)), H', ⟨by have := HK1.out; omega⟩, by repeat (first | exact Drawn0.refl _ | apply Drawn0.step)⟩
          · rw [if_neg c6] at H
            exact absurd H (by simp)
        · rw [if_neg c5] at H
          exact absurd H (by simp)
      · rw [if_neg c4] at H
        have c4b0 : decide (a2 < x1_1) = false := decide_eq_false c4
        clear c4
        obtain rfl := Option.some.inj H
        go_wp2
        go_ret
        exact ⟨by first | rfl | (simp; done) | (simp [*]; done), by repeat (first | exact Drawn0.refl _ | apply Drawn0.step)⟩

end Go.Proofs.Ytgmjolngnhdafaa.P

end
section
namespace Go.Proofs.Ytgmjolngnhdafaa.P
open Go.RowKit Go.Proofs.YtgmjolngnhdafaaW.PrintWords Go.Proofs.YtgmjolngnhdafaaW.PrintLast Go.Proofs.YtgmjolngnhdafaaW.PrintMore
attribute [local go_sem] max2_int min2_int max_two min_two max_three min_three max_four min_four
set_option linter.unusedVariables false
set_option linter.unusedSimpArgs false

set_option maxHeartbeats 8000000 in
set_option maxRecDepth 100000 in
theorem spec_l2Ref.calls (a0 : Int) (r : Bool) (w : World) (h : spec_l2Ref.f a0 = some r) :
    Calls Try.prog 90 #[.int .i64 a0] w fun e w' => e = .returned (.bool r) ∧ Drawn0 w w' := by
  have H : (some (decide (a0 ≥ 2))) = some r := h
  clear h
  obtain rfl := Option.some.inj H
  go_enter Try.func90, Try.ntmps90
  go_wp2
  go_ret
  exact ⟨by first | rfl | (simp; done) | (simp [*]; done), by repeat (first | exact Drawn0.refl _ | apply Drawn0.step)⟩

end Go.Proofs.Ytgmjolngnhdafaa.P

end
section
namespace Go.Proofs.Ytgmjolngnhdafaa.P
open Go.RowKit Go.Proofs.YtgmjolngnhdafaaW.PrintWords Go.Proofs.YtgmjolngnhdafaaW.PrintLast Go.Proofs.YtgmjolngnhdafaaW.PrintMore
attribute [local go_sem] max2_int min2_int max_two min_two max_three min_three max_four min_four
set_option linter.unusedVariables false
set_option linter.unusedSimpArgs false

set_option maxHeartbeats 8000000 in
set_option maxRecDepth 100000 in
theorem spec_l2In.calls (k : Nat) (A0 : Option Addr) (c0 : Nat) (l0 : List (S38)) (a1 : Int) (a2 : Int) (r : Bool) (w : World) (hr0 : Kd.C k38 w A0 l0.length l0) (hc0 : l0.length ≤ c0) (h : spec_l2In.f k l0 a1 a2 = some r) :
    Calls Try.prog 73 #[.slice A0 l0.length c0, .int .i64 a1, .int .i64 a2] w fun e w' => e = .returned (.bool r) ∧ Drawn0 w w' := by
  have HR0 := Aside0.mk hr0
  have HC0 := Aside0.mk hc0
  clear hr0 hc0
  have H : (if a1 = a2 then (spec_l2In.j0 k l0 a1 a2 true) else (spec_l2In.j0 k l0 a1 a2 (a2 == 0))) = some r := h
  clear h
  have HC4 := Aside0.mk H
  clear H
  go_enter Try.func73, Try.ntmps73
  go_upto_region 1 with (fail)
  go_cut [13] (fun v13 wc => ∃ (kq : Nat) (x13_3 : Bool), v13 = .bool x13_3 ∧ Aside0 (spec_l2In.j0 kq l0 a1 a2 x13_3 = some r) ∧ Aside0 (kq ≤ k) ∧ Drawn0 w wc)
  case first =>
    have H := HC4.out
    clear HC4
    by_cases c5 : a1 = a2
    · rw [if_pos c5] at H
      have c5b0 : (a1 == a2) = true := beq_iff_eq.mpr c5
      have c5b1 : (a1 != a2) = false := bne_eq_false_iff_eq.mpr c5
      clear c5
      (first | rw [c5b0] | (simp only [i64_w, i32_w]; rw [c5b0]) | skip)
      have H' := Aside0.mk H
      clear H
      go_wp2
      go_meet
      case rel => exact ⟨_, (true), (by first | rfl | (simp; done) | (simp [*]; done)), H', ⟨by first | omega | exact Nat.le_refl _⟩, by repeat (first | exact Drawn0.refl _ | apply Drawn0.step)⟩
    · rw [if_neg c5] at H
      have c5b0 : (a1 == a2) = false := beq_eq_false_iff_ne.mpr c5
      have c5b1 : (a1 != a2) = true := bne_iff_ne.mpr c5
      (first | rw [c5b0] | (simp only [i64_w, i32_w]; rw [c5b0]) | skip)
      have H' := Aside0.mk H
      clear H
      go_wp2
      go_meet
      case rel => exact ⟨_, ((a2 == 0)), (by first | rfl | (simp; done) | (simp [*]; done)), H', ⟨by first | omega | exact Nat.le_refl _⟩, by repeat (first | exact Drawn0.refl _ | apply Drawn0.step)⟩
  case rest =>
    clear HC4
    try clear p2
    try clear c5
    try clear c5b0
    try clear c5b1
    obtain ⟨kq, x13_3, rfl, HA, HJ3, ⟨mc3, rfl⟩⟩ := hcut
    cases kq with
    | zero => exact absurd HA.out (by simp [spec_l2In.j0])
    | succ kj3 =>
      have H := HA.out
      clear HA
      simp only [spec_l2In.j0] at H
      by_cases c6 : x13_3 = true
      · subst c6
        have H1 : (some true) = some r := by rw [if_pos rfl] at H; exact H
        clear H
        have H := H1
        clear H1
        obtain rfl := Option.some.inj H
        go_wp2
        go_ret
        exact ⟨by first | rfl | (simp; done) | (simp [*]; done), by repeat (first | exact Drawn0.refl _ | apply Drawn0.step)⟩
      · replace c6 := Bool.eq_false_iff.mpr c6
        subst c6
        have H1 : (if a1 = 2 then ((spec_l2Ref.f a2).bind fun t321 => (some t321)) else ((spec_l2Ref.f a1).bind fun t322 => (if t322 = true then (spec_l2In.j1 kj3 l0 a1 a2 (decide (a2 < 8))) else (spec_l2In.j1 kj3 l0 a1 a2 true)))) = some r := by rw [if_neg (show ¬ (false = true) by decide)] at H; exact H
        clear H
        have H := H1
        clear H1
        by_cases c7 : a1 = 2
        · rw [if_pos c7] at H
          have c7b0 : (a1 == 2) = true := beq_iff_eq.mpr c7
          have c7b1 : (a1 != 2) = false := bne_eq_false_iff_eq.mpr c7
          clear c7
          replace H := Option.bind_eq_some_iff.mp H
          obtain ⟨t321, A80, H⟩ := H
          replace H : (some t321) = some r := H
          have A8 := Aside0.mk A80
          clear A80
          obtain rfl := Option.some.inj H
          go_wp2_with (first | ((with_reducible refine gate_callee (f := 90) rfl ?_); refine goesL_ (some 17) rfl rfl Try.func90 (by kernel_rfl) rfl #[.int .i64 a2] rfl (by (try simp only [List.map_toArray, List.map_cons, List.map_nil]); first | done | rfl | (simp only [List.length_drop, List.length_take]; rfl)) ?_; (with_reducible refine (spec_l2Ref.calls a2 t321 _ A8.out).mono ?_); rintro e w' ⟨rfl, ⟨nd, rfl⟩⟩; refine ⟨_, rfl, ?_⟩))
          go_ret
          exact ⟨by first | rfl | (simp; done) | (simp [*]; done), by repeat (first | exact Drawn0.refl _ | apply Drawn0.step)⟩
        · rw [if_neg c7] at H
          have c7b0 : (a1 == 2) = false := beq_eq_false_iff_ne.mpr c7
          have c7b1 : (a1 != 2) = true := bne_iff_ne.mpr c7
          have HC9 := Aside0.mk H
          clear H
          go_upto_region 5 with (fail)
          go_cut [24] (fun v24 wc => ∃ (kq : Nat) (x24_8 : Bool), v24 = .bool x24_8 ∧ Aside0 (spec_l2In.j1 kq l0 a1 a2 x24_8 = some r) ∧ Aside0 (kq ≤ kj3) ∧ Drawn0 w wc)
          case first =>
            have H := HC9.out
            clear HC9
            replace H := Option.bind_eq_some_iff.mp H
            obtain ⟨t322, A100, H⟩ := H
            replace H : (if t322 = true then (spec_l2In.j1 kj3 l0 a1 a2 (decide (a2 < 8))) else (spec_l2In.j1 kj3 l0 a1 a2 true)) = some r := H
            have A10 := Aside0.mk A100
            clear A100
            by_cases c11 : t322 = true
            · subst c11
              have H1 : (spec_l2In.j1 kj3 l0 a1 a2 (decide (a2 < 8))) = some r := by rw [if_pos rfl] at H; exact H
              clear H
              have H := H1
              clear H1
              have H' := Aside0.mk H
              clear H
              go_wp2_with (first | ((with_reducible refine gate_callee (f := 90) rfl ?_); refine goesL_ (some 19) rfl rfl Try.func90 (by kernel_rfl) rfl #[.int .i64 a1] rfl (by (try simp only [List.map_toArray, List.map_cons, List.map_nil]); first | done | rfl | (simp only [List.length_drop, List.length_take]; rfl)) ?_; (with_reducible refine (spec_l2Ref.calls a1 true _ A10.out).mono ?_); rintro e w' ⟨rfl, ⟨nd, rfl⟩⟩; refine ⟨_, rfl, ?_⟩))
              go_meet
              case rel => exact ⟨_, (decide (a2 < 8)), (by first | rfl | (simp; done) | (simp [*]; done)), H', ⟨by have := HJ3.out; first | omega | exact Nat.le_refl _⟩, by repeat (first | exact Drawn0.refl _ | apply Drawn0.step)⟩
            · replace c11 := Bool.eq_false_iff.mpr c11
              subst c11
              have H1 : (spec_l2In.j1 kj3 l0 a1 a2 true) = some r := by rw [if_neg (show ¬ (false = true) by decide)] at H; exact H
              clear H
              have H := H1
              clear H1
              have H' := Aside0.mk H
              clear H
              go_wp2_with (first | ((with_reducible refine gate_callee (f := 90) rfl ?_); refine goesL_ (some 19) rfl rfl Try.func90 (by kernel_rfl) rfl #[.int .i64 a1] rfl (by (try simp only [List.map_toArray, List.map_cons, List.map_nil]); first | done | rfl | (simp only [List.length_drop, List.length_take]; rfl)) ?_; (with_reducible refine (spec_l2Ref.calls a1 false _ A10.out).mono ?_); rintro e w' ⟨rfl, ⟨nd, rfl⟩⟩; refine ⟨_, rfl, ?_⟩))
              go_meet
              case rel => exact ⟨_, (true), (by first | rfl | (simp; done) | (simp [*]; done)), H', ⟨by have := HJ3.out; first | omega | exact Nat.le_refl _⟩, by repeat (first | exact Drawn0.refl _ | apply Drawn0.step)⟩
          case rest =>
            clear HC9
            try clear c1
            try clear p2
            try clear c3
            try clear c5
            try clear c5b0
            try clear c5b1
            try clear c6
            try clear c7
            try clear c7b0
            try clear c7b1
            try clear c9
            try clear c11
            try clear p2
            obtain ⟨kq, x24_8, rfl, HA, HJ8, ⟨mc8, rfl⟩⟩ := hcut
            cases kq with
            | zero => exact absurd HA.out (by simp [spec_l2In.j1])
            | succ kj8 =>
              have H := HA.out
              clear HA
              simp only [spec_l2In.j1] at H
              by_cases c12 : x24_8 = true
              · subst c12
                have H1 : (some false) = some r := by rw [if_pos rfl] at H; exact H
                clear H
                have H := H1
                clear H1
                obtain rfl := Option.some.inj H
                go_wp2
                go_ret
                exact ⟨by first | rfl | (simp; done) | (simp [*]; done), by repeat (first | exact Drawn0.refl _ | apply Drawn0.step)⟩
              · replace c12 := Bool.eq_false_iff.mpr c12
                subst c12
                have H1 : (if a1 < 8 then (some (a2 == 8)) else ((spec_l2Up.f kj8 l0 (wrap64 (a1 - 8)) (wrap64 (a2 - 8))).bind fun t323 => (some t323))) = some r := by rw [if_neg (show ¬ (false = true) by decide)] at H; exact H
                clear H
                have H := H1
                clear H1
                by_cases c13 : a1 < 8
                · rw [if_pos c13] at H
                  have c13b0 : decide (a1 < 8) = true := decide_eq_true c13
                  clear c13
                  obtain rfl := Option.some.inj H
                  go_wp2
                  go_ret
                  exact ⟨by first | rfl | (simp; done) | (simp [*]; done), by repeat (first | exact Drawn0.refl _ | apply Drawn0.step)⟩
                · rw [if_neg c13] at H
                  have c13b0 : decide (a1 < 8) = false := decide_eq_false c13
                  clear c13
                  replace H := Option.bind_eq_some_iff.mp H
                  obtain ⟨t323, A140, H⟩ := H
                  replace H : (some t323) = some r := H
                  have A14 := Aside0.mk A140
                  clear A140
                  obtain rfl := Option.some.inj H
                  go_wp2_with (first | ((with_reducible refine gate_callee (f := 69) rfl ?_); refine goesL_ (some 34) rfl rfl Try.func69 (by kernel_rfl) rfl #[.slice A0 l0.length c0, .int .i64 (wrap64 (a1 - 8)), .int .i64 (wrap64 (a2 - 8))] rfl (by (try simp only [List.map_toArray, List.map_cons, List.map_nil]); first | done | rfl | (simp only [List.length_drop, List.length_take]; rfl)) ?_; (with_reducible refine (spec_l2Up.calls kj8 _ _ l0 (wrap64 (a1 - 8)) (wrap64 (a2 - 8)) t323 _ ?side1 ?side2 A14.out).mono ?_); (case side1 => repeat (first | exact HR0.out | (with_reducible refine Kd.C_alloc ?_ _) | (with_reducible refine Kd.C_drewN ?_ _) | (with_reducible refine Kd.C_drew ?_))); (case side2 => exact HC0.out); rintro e w' ⟨rfl, ⟨nd, rfl⟩⟩; refine ⟨_, rfl, ?_⟩))
                  go_ret
                  exact ⟨by first | rfl | (simp; done) | (simp [*]; done), by repeat (first | exact Drawn0.refl _ | apply Drawn0.step)⟩

end Go.Proofs.Ytgmjolngnhdafaa.P

end
section
namespace Go.Proofs.Ytgmjolngnhdafaa.P
open Go.RowKit Go.Proofs.YtgmjolngnhdafaaW.PrintWords Go.Proofs.YtgmjolngnhdafaaW.PrintLast Go.Proofs.YtgmjolngnhdafaaW.PrintMore
attribute [local go_sem] max2_int min2_int max_two min_two max_three min_three max_four min_four
set_option linter.unusedVariables false
set_option linter.unusedSimpArgs false

set_option maxHeartbeats 8000000 in
set_option maxRecDepth 100000 in
theorem spec_l11In.calls (k : Nat) (A0 : Option Addr) (c0 : Nat) (l0 : List (S38)) (a1_0 : Bool) (A1_1 : Option Addr) (c1_1 : Nat) (l1_1 : List Int) (A1_2 : Option Addr) (c1_2 : Nat) (l1_2 : List Int) (a2_0 : Bool) (A2_1 : Option Addr) (c2_1 : Nat) (l2_1 : List Int) (A2_2 : Option Addr) (c2_2 : Nat) (l2_2 : List Int) (r : Bool) (w : World) (hr0 : Kd.C k38 w A0 l0.length l0) (hc0 : l0.length ≤ c0) (hr1_1 : Kd.C (Kd.int .i64) w A1_1 l1_1.length l1_1) (hc1_1 : l1_1.length ≤ c1_1) (hr1_2 : Kd.C (Kd.int .i64) w A1_2 l1_2.length l1_2) (hc1_2 : l1_2.length ≤ c1_2) (hr2_1 : Kd.C (Kd.int .i64) w A2_1 l2_1.length l2_1) (hc2_1 : l2_1.length ≤ c2_1) (hr2_2 : Kd.C (Kd.int .i64) w A2_2 l2_2.length l2_2) (hc2_2 : l2_2.length ≤ c2_2) (h : spec_l11In.f k l0 a1_0 l1_1 l1_2 a2_0 l2_1 l2_2 = some r) :
    Calls Try.prog 84 #[.slice A0 l0.length c0, .agg #[.bool a1_0, .slice A1_1 l1_1.length c1_1, .slice A1_2 l1_2.length c1_2], .agg #[.bool a2_0, .slice A2_1 l2_1.length c2_1, .slice A2_2 l2_2.length c2_2]] w fun e w' => e = .returned (.bool r) ∧ Below w.heap.size w w' := by
  have hu52 := Try.underlying52
  have HR0 := Aside0.mk hr0
  have HC0 := Aside0.mk hc0
  clear hr0 hc0
  have HR1_1 := Aside0.mk hr1_1
  have HC1_1 := Aside0.mk hc1_1
  clear hr1_1 hc1_1
  have HR1_2 := Aside0.mk hr1_2
  have HC1_2 := Aside0.mk hc1_2
  clear hr1_2 hc1_2
  have HR2_1 := Aside0.mk hr2_1
  have HC2_1 := Aside0.mk hc2_1
  clear hr2_1 hc2_1
  have HR2_2 := Aside0.mk hr2_2
  have HC2_2 := Aside0.mk hc2_2
  clear hr2_2 hc2_2
  have HB := Aside0.mk (Below.refl w.heap.size w)
  have H : (if (l1_2.length : Int) = (l2_2.length : Int) then (spec_l11In.l0 k l0 0 a1_0 l1_1 l1_2 a2_0 l2_1 l2_2) else (some false)) = some r := h
  clear h
  by_cases c4 : (l1_2.length : Int) = (l2_2.length : Int)
  · rw [if_pos c4] at H
    have c4b0 : ((l1_2.length : Int) == (l2_2.length : Int)) = true := beq_iff_eq.mpr c4
    have c4b1 : ((l1_2.length : Int) != (l2_2.length : Int)) = false := bne_eq_false_iff_eq.mpr c4
    have c4b2 : (l1_2.length == l2_2.length) = true := by first | simpa using c4 | (simp at c4 ⊢; omega)
    clear c4
    have H' := Aside0.mk H
    clear H
    go_enter Try.func84, Try.ntmps84
    go_wp2_with (first | ((with_reducible refine gate_dst (N := 4) rfl ?_); refine box_event ?hg (N := 4) ?hd (cs := #[.bool a1_0, .slice A1_1 l1_1.length c1_1, .slice A1_2 l1_2.length c1_2]) (t := 52) ?hr ?_; (case hd => rfl); (case hg => rfl); (case hr => first | (go_simp; done) | (go_simp; rfl)); intro gb494 hg w5 hbox hb; have n0_ := Aside0.mk (below_step (by repeat (first | (with_reducible first | exact HB.out | apply below_alloc | apply pw_below_drewN | apply below_drew1) | exact HB.out)) hb); have n1_ := Aside0.mk (hbox); have n2_ := Aside0.mk ((by rw [hg]; exact (below_size (by repeat (first | (with_reducible first | exact HB.out | apply below_alloc | apply pw_below_drewN | apply below_drew1) | exact HB.out))) : w.heap.size ≤ gb494)); have n3_ := Aside0.mk ((by rw [hg]; exact (below_size (by repeat (first | (with_reducible first | exact HB.out | apply below_alloc | apply pw_below_drewN | apply below_drew1) | exact HB.out))) : w.heap.size ≤ gb494)); clear HB; have HB := n0_; have BK494 := n1_; have GW494 := n2_; have GE494 := n3_; clear n0_ n1_ n2_ n3_; clear hb hbox hg) | ((with_reducible refine gate_dst (N := 5) rfl ?_); refine box_event ?hg (N := 5) ?hd (cs := #[.bool a2_0, .slice A2_1 l2_1.length c2_1, .slice A2_2 l2_2.length c2_2]) (t := 52) ?hr ?_; (case hd => rfl); (case hg => rfl); (case hr => first | (go_simp; done) | (go_simp; rfl)); intro gb495 hg w6 hbox hb; have n0_ := Aside0.mk (blk_below (g := gb494) (o := .cells #[.bool a1_0, .slice A1_1 l1_1.length c1_1, .slice A1_2 l1_2.length c1_2] 52 (0, 0)) (by (with_reducible repeat (first | refine blk_drewN ?_ _ | refine blk_drew ?_ | refine blk_alloc ?_ _)); exact BK494.out) hb); have n1_ := Aside0.mk (below_step (by repeat (first | (with_reducible first | exact HB.out | apply below_alloc | apply pw_below_drewN | apply below_drew1 | refine below_set ?_ GE494.out) | exact HB.out)) hb); have n2_ := Aside0.mk (hbox); have n3_ := Aside0.mk ((by rw [hg]; exact (below_size (by repeat (first | (with_reducible first | exact HB.out | apply below_alloc | apply pw_below_drewN | apply below_drew1 | refine below_set ?_ GE494.out) | exact HB.out))) : w.heap.size ≤ gb495)); have n4_ := Aside0.mk ((by rw [hg]; exact (below_size (by repeat (first | (with_reducible first | exact HB.out | apply below_alloc | apply pw_below_drewN | apply below_drew1 | refine below_set ?_ GE494.out) | exact HB.out))) : w.heap.size ≤ gb495)); have n5_ := Aside0.mk ((by rw [hg]; exact Nat.ne_of_lt (blk_lt (g := gb494) (o := .cells #[.bool a1_0, .slice A1_1 l1_1.length c1_1, .slice A1_2 l1_2.length c1_2] 52 (0, 0)) (by (with_reducible repeat (first | refine blk_drewN ?_ _ | refine blk_drew ?_ | refine blk_alloc ?_ _)); exact BK494.out)) : gb494 ≠ gb495)); have n6_ := Aside0.mk ((by rw [hg]; exact Nat.ne_of_gt (blk_lt (g := gb494) (o := .cells #[.bool a1_0, .slice A1_1 l1_1.length c1_1, .slice A1_2 l1_2.length c1_2] 52 (0, 0)) (by (with_reducible repeat (first | refine blk_drewN ?_ _ | refine blk_drew ?_ | refine blk_alloc ?_ _)); exact BK494.out)) : gb495 ≠ gb494)); clear BK494; clear HB; have BK494 := n0_; have HB := n1_; have BK495 := n2_; have GW495 := n3_; have GE495 := n4_; have NB494_495 := n5_; have NB495_494 := n6_; clear n0_ n1_ n2_ n3_ n4_ n5_ n6_; clear hb hbox hg; have hnb7 := NB494_495.out; have hnc7 := NB495_494.out; have hcz8_0 : w6.cell? ⟨gb494, 0, none⟩ = some (.bool a1_0) := (blk_cell BK494.out 0).trans rfl; have hcz8_1 : w6.cell? ⟨gb494, 1, none⟩ = some (.slice A1_1 l1_1.length c1_1) := (blk_cell BK494.out 1).trans rfl; have hcz8_2 : w6.cell? ⟨gb494, 2, none⟩ = some (.slice A1_2 l1_2.length c1_2) := (blk_cell BK494.out 2).trans rfl; have hfz8_0 := blk_frozen BK494.out 0; have hfz8_1 := blk_frozen BK494.out 1; have hfz8_2 := blk_frozen BK494.out 2; have hcz9_0 : w6.cell? ⟨gb495, 0, none⟩ = some (.bool a2_0) := (blk_cell BK495.out 0).trans rfl; have hcz9_1 : w6.cell? ⟨gb495, 1, none⟩ = some (.slice A2_1 l2_1.length c2_1) := (blk_cell BK495.out 1).trans rfl; have hcz9_2 : w6.cell? ⟨gb495, 2, none⟩ = some (.slice A2_2 l2_2.length c2_2) := (blk_cell BK495.out 2).trans rfl; have hfz9_0 := blk_frozen BK495.out 0; have hfz9_1 := blk_frozen BK495.out 1; have hfz9_2 := blk_frozen BK495.out 2))
    repeat (go_quiet (first | ((with_reducible refine gate_dst (N := 4) rfl ?_); refine box_event ?hg (N := 4) ?hd (cs := #[.bool a1_0, .slice A1_1 l1_1.length c1_1, .slice A1_2 l1_2.length c1_2]) (t := 52) ?hr ?_; (case hd => rfl); (case hg => rfl); (case hr => first | (go_simp; done) | (go_simp; rfl)); intro gb494 hg w5 hbox hb; have n0_ := Aside0.mk (below_step (by repeat (first | (with_reducible first | exact HB.out | apply below_alloc | apply pw_below_drewN | apply below_drew1) | exact HB.out)) hb); have n1_ := Aside0.mk (hbox); have n2_ := Aside0.mk ((by rw [hg]; exact (below_size (by repeat (first | (with_reducible first | exact HB.out | apply below_alloc | apply pw_below_drewN | apply below_drew1) | exact HB.out))) : w.heap.size ≤ gb494)); have n3_ := Aside0.mk ((by rw [hg]; exact (below_size (by repeat (first | (with_reducible first | exact HB.out | apply below_alloc | apply pw_below_drewN | apply below_drew1) | exact HB.out))) : w.heap.size ≤ gb494)); clear HB; have HB := n0_; have BK494 := n1_; have GW494 := n2_; have GE494 := n3_; clear n0_ n1_ n2_ n3_; clear hb hbox hg) | ((with_reducible refine gate_dst (N := 5) rfl ?_); refine box_event ?hg (N := 5) ?hd (cs := #[.bool a2_0, .slice A2_1 l2_1.length c2_1, .slice A2_2 l2_2.length c2_2]) (t := 52) ?hr ?_; (case hd => rfl); (case hg => rfl); (case hr => first | (go_simp; done) | (go_simp; rfl)); intro gb495 hg w6 hbox hb; have n0_ := Aside0.mk (blk_below (g := gb494) (o := .cells #[.bool a1_0, .slice A1_1 l1_1.length c1_1, .slice A1_2 l1_2.length c1_2] 52 (0, 0)) (by (with_reducible repeat (first | refine blk_drewN ?_ _ | refine blk_drew ?_ | refine blk_alloc ?_ _)); exact BK494.out) hb); have n1_ := Aside0.mk (below_step (by repeat (first | (with_reducible first | exact HB.out | apply below_alloc | apply pw_below_drewN | apply below_drew1 | refine below_set ?_ GE494.out) | exact HB.out)) hb); have n2_ := Aside0.mk (hbox); have n3_ := Aside0.mk ((by rw [hg]; exact (below_size (by repeat (first | (with_reducible first | exact HB.out | apply below_alloc | apply pw_below_drewN | apply below_drew1 | refine below_set ?_ GE494.out) | exact HB.out))) : w.heap.size ≤ gb495)); have n4_ := Aside0.mk ((by rw [hg]; exact (below_size (by repeat (first | (with_reducible first | exact HB.out | apply below_alloc | apply pw_below_drewN | apply below_drew1 | refine below_set ?_ GE494.out) | exact HB.out))) : w.heap.size ≤ gb495)); have n5_ := Aside0.mk ((by rw [hg]; exact Nat.ne_of_lt (blk_lt (g := gb494) (o := .cells #[.bool a1_0, .slice A1_1 l1_1.length c1_1, .slice A1_2 l1_2.length c1_2] 52 (0, 0)) (by (with_reducible repeat (first | refine blk_drewN ?_ _ | refine blk_drew ?_ | refine blk_alloc ?_ _)); exact BK494.out)) : gb494 ≠ gb495)); have n6_ := Aside0.mk ((by rw [hg]; exact Nat.ne_of_gt (blk_lt (g := gb494) (o := .cells #[.bool a1_0, .slice A1_1 l1_1.length c1_1, .slice A1_2 l1_2.length c1_2] 52 (0, 0)) (by (with_reducible repeat (first | refine blk_drewN ?_ _ | refine blk_drew ?_ | refine blk_alloc ?_ _)); exact BK494.out)) : gb495 ≠ gb494)); clear BK494; clear HB; have BK494 := n0_; have HB := n1_; have BK495 := n2_; have GW495 := n3_; have GE495 := n4_; have NB494_495 := n5_; have NB495_494 := n6_; clear n0_ n1_ n2_ n3_ n4_ n5_ n6_; clear hb hbox hg; have hnb7 := NB494_495.out; have hnc7 := NB495_494.out; have hcz8_0 : w6.cell? ⟨gb494, 0, none⟩ = some (.bool a1_0) := (blk_cell BK494.out 0).trans rfl; have hcz8_1 : w6.cell? ⟨gb494, 1, none⟩ = some (.slice A1_1 l1_1.length c1_1) := (blk_cell BK494.out 1).trans rfl; have hcz8_2 : w6.cell? ⟨gb494, 2, none⟩ = some (.slice A1_2 l1_2.length c1_2) := (blk_cell BK494.out 2).trans rfl; have hfz8_0 := blk_frozen BK494.out 0; have hfz8_1 := blk_frozen BK494.out 1; have hfz8_2 := blk_frozen BK494.out 2; have hcz9_0 : w6.cell? ⟨gb495, 0, none⟩ = some (.bool a2_0) := (blk_cell BK495.out 0).trans rfl; have hcz9_1 : w6.cell? ⟨gb495, 1, none⟩ = some (.slice A2_1 l2_1.length c2_1) := (blk_cell BK495.out 1).trans rfl; have hcz9_2 : w6.cell? ⟨gb495, 2, none⟩ = some (.slice A2_2 l2_2.length c2_2) := (blk_cell BK495.out 2).trans rfl; have hfz9_0 := blk_frozen BK495.out 0; have hfz9_1 := blk_frozen BK495.out 1; have hfz9_2 := blk_frozen BK495.out 2)); try go_wp2_with (first | ((with_reducible refine gate_dst (N := 4) rfl ?_); refine box_event ?hg (N := 4) ?hd (cs := #[.bool a1_0, .slice A1_1 l1_1.length c1_1, .slice A1_2 l1_2.length c1_2]) (t := 52) ?hr ?_; (case hd => rfl); (case hg => rfl); (case hr => first | (go_simp; done) | (go_simp; rfl)); intro gb494 hg w5 hbox hb; have n0_ := Aside0.mk (below_step (by repeat (first | (with_reducible first | exact HB.out | apply below_alloc | apply pw_below_drewN | apply below_drew1) | exact HB.out)) hb); have n1_ := Aside0.mk (hbox); have n2_ := Aside0.mk ((by rw [hg]; exact (below_size (by repeat (first | (with_reducible first | exact HB.out | apply below_alloc | apply pw_below_drewN | apply below_drew1) | exact HB.out))) : w.heap.size ≤ gb494)); have n3_ := Aside0.mk ((by rw [hg]; exact (below_size (by repeat (first | (with_reducible first | exact HB.out | apply below_alloc | apply pw_below_drewN | apply below_drew1) | exact HB.out))) : w.heap.size ≤ gb494)); clear HB; have HB := n0_; have BK494 := n1_; have GW494 := n2_; have GE494 := n3_; clear n0_ n1_ n2_ n3_; clear hb hbox hg) | ((with_reducible refine gate_dst (N := 5) rfl ?_); refine box_event ?hg (N := 5) ?hd (cs := #[.bool a2_0, .slice A2_1 l2_1.length c2_1, .slice A2_2 l2_2.length c2_2]) (t := 52) ?hr ?_; (case hd => rfl); (case hg => rfl); (case hr => first | (go_simp; done) | (go_simp; rfl)); intro gb495 hg w6 hbox hb; have n0_ := Aside0.mk (blk_below (g := gb494) (o := .cells #[.bool a1_0, .slice A1_1 l1_1.length c1_1, .slice A1_2 l1_2.length c1_2] 52 (0, 0)) (by (with_reducible repeat (first | refine blk_drewN ?_ _ | refine blk_drew ?_ | refine blk_alloc ?_ _)); exact BK494.out) hb); have n1_ := Aside0.mk (below_step (by repeat (first | (with_reducible first | exact HB.out | apply below_alloc | apply pw_below_drewN | apply below_drew1 | refine below_set ?_ GE494.out) | exact HB.out)) hb); have n2_ := Aside0.mk (hbox); have n3_ := Aside0.mk ((by rw [hg]; exact (below_size (by repeat (first | (with_reducible first | exact HB.out | apply below_alloc | apply pw_below_drewN | apply below_drew1 | refine below_set ?_ GE494.out) | exact HB.out))) : w.heap.size ≤ gb495)); have n4_ := Aside0.mk ((by rw [hg]; exact (below_size (by repeat (first | (with_reducible first | exact HB.out | apply below_alloc | apply pw_below_drewN | apply below_drew1 | refine below_set ?_ GE494.out) | exact HB.out))) : w.heap.size ≤ gb495)); have n5_ := Aside0.mk ((by rw [hg]; exact Nat.ne_of_lt (blk_lt (g := gb494) (o := .cells #[.bool a1_0, .slice A1_1 l1_1.length c1_1, .slice A1_2 l1_2.length c1_2] 52 (0, 0)) (by (with_reducible repeat (first | refine blk_drewN ?_ _ | refine blk_drew ?_ | refine blk_alloc ?_ _)); exact BK494.out)) : gb494 ≠ gb495)); have n6_ := Aside0.mk ((by rw [hg]; exact Nat.ne_of_gt (blk_lt (g := gb494) (o := .cells #[.bool a1_0, .slice A1_1 l1_1.length c1_1, .slice A1_2 l1_2.length c1_2] 52 (0, 0)) (by (with_reducible repeat (first | refine blk_drewN ?_ _ | refine blk_drew ?_ | refine blk_alloc ?_ _)); exact BK494.out)) : gb495 ≠ gb494)); clear BK494; clear HB; have BK494 := n0_; have HB := n1_; have BK495 := n2_; have GW495 := n3_; have GE495 := n4_; have NB494_495 := n5_; have NB495_494 := n6_; clear n0_ n1_ n2_ n3_ n4_ n5_ n6_; clear hb hbox hg; have hnb7 := NB494_495.out; have hnc7 := NB495_494.out; have hcz8_0 : w6.cell? ⟨gb494, 0, none⟩ = some (.bool a1_0) := (blk_cell BK494.out 0).trans rfl; have hcz8_1 : w6.cell? ⟨gb494, 1, none⟩ = some (.slice A1_1 l1_1.length c1_1) := (blk_cell BK494.out 1).trans rfl; have hcz8_2 : w6.cell? ⟨gb494, 2, none⟩ = some (.slice A1_2 l1_2.length c1_2) := (blk_cell BK494.out 2).trans rfl; have hfz8_0 := blk_frozen BK494.out 0; have hfz8_1 := blk_frozen BK494.out 1; have hfz8_2 := blk_frozen BK494.out 2; have hcz9_0 : w6.cell? ⟨gb495, 0, none⟩ = some (.bool a2_0) := (blk_cell BK495.out 0).trans rfl; have hcz9_1 : w6.cell? ⟨gb495, 1, none⟩ = some (.slice A2_1 l2_1.length c2_1) := (blk_cell BK495.out 1).trans rfl; have hcz9_2 : w6.cell? ⟨gb495, 2, none⟩ = some (.slice A2_2 l2_2.length c2_2) := (blk_cell BK495.out 2).trans rfl; have hfz9_0 := blk_frozen BK495.out 0; have hfz9_1 := blk_frozen BK495.out 1; have hfz9_2 := blk_frozen BK495.out 2)))
    go_loopg [7] k (fun kq v7 w' => ∃ (x7_1 : Int), v7 = .int .i64 x7_1 ∧ Aside0 (spec_l11In.l0 kq l0 x7_1 a1_0 l1_1 l1_2 a2_0 l2_1 l2_2 = some r) ∧ Aside0 (kq ≤ k) ∧ Aside0 (w'.heap[gb494]? = some (.cells #[.bool a1_0, (.slice A1_1 l1_1.length c1_1), (.slice A1_2 l1_2.length c1_2)] 52 (0, 0))) ∧ Aside0 (w'.heap[gb495]? = some (.cells #[.bool a2_0, (.slice A2_1 l2_1.length c2_1), (.slice A2_2 l2_2.length c2_2)] 52 (0, 0))) ∧ Aside0 (Below w.heap.size w w'))
    case atStart => exact ⟨(0), (by first | rfl | (simp; done) | (simp [*]; done)), H', ⟨Nat.le_refl _⟩, ⟨by (with_reducible repeat (first | refine blk_drewN ?_ _ | refine blk_drew ?_ | refine blk_alloc ?_ _)); exact BK494.out⟩, ⟨by (with_reducible repeat (first | refine blk_drewN ?_ _ | refine blk_drew ?_ | refine blk_alloc ?_ _)); exact BK495.out⟩, ⟨by repeat (first | (with_reducible first | exact HB.out | apply below_alloc | apply pw_below_drewN | apply below_drew1 | refine below_set ?_ GE494.out | refine below_set ?_ GE495.out) | exact HB.out)⟩⟩
    case round =>
      clear H'
      try clear c1
      try clear c2
      try clear p2
      try clear c4
      try clear c4b0
      try clear c4b1
      try clear c4b2
      try clear c7
      try clear c8
      try clear hcz8_0
      try clear hcz8_1
      try clear hcz8_2
      try clear hcz9_0
      try clear hcz9_1
      try clear hcz9_2
      try clear hfz8_0
      try clear hfz8_1
      try clear hfz8_2
      try clear hfz9_0
      try clear hfz9_1
      try clear hfz9_2
      obtain ⟨x7_1, rfl, HA, HK1, BK494, BK495, HB⟩ := hrel
      cases gk with
      | zero => exact absurd HA.out (by simp [spec_l11In.l0])
      | succ k1 =>
        have H := HA.out
        clear HA
        simp only [spec_l11In.l0] at H
        by_cases c10 : x7_1 < (l1_1.length : Int)
        · rw [if_pos c10] at H
          have c10b0 : decide (x7_1 < (l1_1.length : Int)) = true := decide_eq_true c10
          clear c10
          by_cases c11 : 0 ≤ x7_1
          · rw [if_pos c11] at H
            have c11b0 : decide (0 ≤ x7_1) = true := decide_eq_true c11
            clear c11
            by_cases c12 : x7_1 < (l2_1.length : Int)
            · rw [if_pos c12] at H
              have c12b0 : decide (x7_1 < (l2_1.length : Int)) = true := decide_eq_true c12
              clear c12
              replace H := Option.bind_eq_some_iff.mp H
              obtain ⟨t498, A130, H⟩ := H
              replace H : (if t498 = true then (spec_l11In.l0 k1 l0 (wrap64 (x7_1 + 1)) a1_0 l1_1 l1_2 a2_0 l2_1 l2_2) else (some false)) = some r := H
              have A13 := Aside0.mk A130
              clear A130
              by_cases c14 : t498 = true
              · subst c14
                have H1 : (spec_l11In.l0 k1 l0 (wrap64 (x7_1 + 1)) a1_0 l1_1 l1_2 a2_0 l2_1 l2_2) = some r := by rw [if_pos rfl] at H; exact H
                clear H
                have H := H1
                clear H1
                have H' := Aside0.mk H
                clear H
                have hnb15 := NB494_495.out
                have hnc15 := NB495_494.out
                have hcz16_0 : wr.cell? ⟨gb494, 0, none⟩ = some (.bool a1_0) := (blk_cell BK494.out 0).trans rfl
                have hcz16_1 : wr.cell? ⟨gb494, 1, none⟩ = some (.slice A1_1 l1_1.length c1_1) := (blk_cell BK494.out 1).trans rfl
                have hcz16_2 : wr.cell? ⟨gb494, 2, none⟩ = some (.slice A1_2 l1_2.length c1_2) := (blk_cell BK494.out 2).trans rfl
                have hfz16_0 := blk_frozen BK494.out 0
                have hfz16_1 := blk_frozen BK494.out 1
                have hfz16_2 := blk_frozen BK494.out 2
                have p496 : 0 ≤ (x7_1 : Int) := of_decide_eq_true (by first | (with_reducible assumption) | assumption)
                have q496 : x7_1 < (l1_1.length : Int) := of_decide_eq_true (by first | (with_reducible assumption) | assumption)
                obtain ⟨ad496, e496, hx496_0⟩ := Kd.at_int HR1_1.out x7_1 p496 q496
                cases e496
                replace hx496_0 := (HB.out.cell (World.block_lt_of_cell? w _ hx496_0)).trans hx496_0
                replace p496 := eq_true p496
                replace q496 := eq_true q496
                have hcz17_0 : wr.cell? ⟨gb495, 0, none⟩ = some (.bool a2_0) := (blk_cell BK495.out 0).trans rfl
                have hcz17_1 : wr.cell? ⟨gb495, 1, none⟩ = some (.slice A2_1 l2_1.length c2_1) := (blk_cell BK495.out 1).trans rfl
                have hcz17_2 : wr.cell? ⟨gb495, 2, none⟩ = some (.slice A2_2 l2_2.length c2_2) := (blk_cell BK495.out 2).trans rfl
                have hfz17_0 := blk_frozen BK495.out 0
                have hfz17_1 := blk_frozen BK495.out 1
                have hfz17_2 := blk_frozen BK495.out 2
                have p497 : 0 ≤ (x7_1 : Int) := of_decide_eq_true (by first | (with_reducible assumption) | assumption)
                have q497 : x7_1 < (l2_1.length : Int) := of_decide_eq_true (by first | (with_reducible assumption) | assumption)
                obtain ⟨ad497, e497, hx497_0⟩ := Kd.at_int HR2_1.out x7_1 p497 q497
                cases e497
                replace hx497_0 := (HB.out.cell (World.block_lt_of_cell? w _ hx497_0)).trans hx497_0
                replace p497 := eq_true p497
                replace q497 := eq_true q497
                go_wp2_with (first | (go_at_call 73; (with_reducible refine (spec_l2In.calls k1 _ _ l0 (rd l1_1 x7_1) (rd l2_1 x7_1) true _ ?side1 ?side2 A13.out).mono ?_); (case side1 => repeat (first | exact (Kd.C_below HR0.out HB.out) | (with_reducible refine Kd.C_alloc ?_ _) | (with_reducible refine Kd.C_drewN ?_ _) | (with_reducible refine Kd.C_drew ?_))); (case side2 => exact HC0.out); rintro e w' ⟨rfl, ⟨nd, rfl⟩⟩; (try first | exact ⟨rfl, _, World.drewN_drewN _ _ _⟩ | exact ⟨rfl, _, Eq.trans (World.drewN_drewN _ _ _) (congrArg (World.drewN _) (Nat.add_assoc _ _ _))⟩)))
                repeat (go_quiet (first | (go_at_call 73; (with_reducible refine (spec_l2In.calls k1 _ _ l0 (rd l1_1 x7_1) (rd l2_1 x7_1) true _ ?side1 ?side2 A13.out).mono ?_); (case side1 => repeat (first | exact (Kd.C_below HR0.out HB.out) | (with_reducible refine Kd.C_alloc ?_ _) | (with_reducible refine Kd.C_drewN ?_ _) | (with_reducible refine Kd.C_drew ?_))); (case side2 => exact HC0.out); rintro e w' ⟨rfl, ⟨nd, rfl⟩⟩; (try first | exact ⟨rfl, _, World.drewN_drewN _ _ _⟩ | exact ⟨rfl, _, Eq.trans (World.drewN_drewN _ _ _) (congrArg (World.drewN _) (Nat.add_assoc _ _ _))⟩))); try go_wp2_with (first | (go_at_call 73; (with_reducible refine (spec_l2In.calls k1 _ _ l0 (rd l1_1 x7_1) (rd l2_1 x7_1) true _ ?side1 ?side2 A13.out).mono ?_); (case side1 => repeat (first | exact (Kd.C_below HR0.out HB.out) | (with_reducible refine Kd.C_alloc ?_ _) | (with_reducible refine Kd.C_drewN ?_ _) | (with_reducible refine Kd.C_drew ?_))); (case side2 => exact HC0.out); rintro e w' ⟨rfl, ⟨nd, rfl⟩⟩; (try first | exact ⟨rfl, _, World.drewN_drewN _ _ _⟩ | exact ⟨rfl, _, Eq.trans (World.drewN_drewN _ _ _) (congrArg (World.drewN _) (Nat.add_assoc _ _ _))⟩))))
                go_roundg k1
                case measure => have := HK1.out; omega
                case rel => exact ⟨(wrap64 (x7_1 + 1)), (by first | rfl | (simp; done) | (simp [*]; done)), H', ⟨by have := HK1.out; omega⟩, ⟨by (with_reducible repeat (first | refine blk_drewN ?_ _ | refine blk_drew ?_ | refine blk_alloc ?_ _)); exact BK494.out⟩, ⟨by (with_reducible repeat (first | refine blk_drewN ?_ _ | refine blk_drew ?_ | refine blk_alloc ?_ _)); exact BK495.out⟩, ⟨by repeat (first | (with_reducible first | exact HB.out | apply below_alloc | apply pw_below_drewN | apply below_drew1 | refine below_set ?_ GE494.out | refine below_set ?_ GE495.out) | exact HB.out)⟩⟩
              · replace c14 := Bool.eq_false_iff.mpr c14
                subst c14
                have H1 : (some false) = some r := by rw [if_neg (show ¬ (false = true) by decide)] at H; exact H
                clear H
                have H := H1
                clear H1
                obtain rfl := Option.some.inj H
                have hnb18 := NB494_495.out
                have hnc18 := NB495_494.out
                have hcz19_0 : wr.cell? ⟨gb494, 0, none⟩ = some (.bool a1_0) := (blk_cell BK494.out 0).trans rfl
                have hcz19_1 : wr.cell? ⟨gb494, 1, none⟩ = some (.slice A1_1 l1_1.length c1_1) := (blk_cell BK494.out 1).trans rfl
                have hcz19_2 : wr.cell? ⟨gb494, 2, none⟩ = some (.slice A1_2 l1_2.length c1_2) := (blk_cell BK494.out 2).trans rfl
                have hfz19_0 := blk_frozen BK494.out 0
                have hfz19_1 := blk_frozen BK494.out 1
                have hfz19_2 := blk_frozen BK494.out 2
                have p496 : 0 ≤ (x7_1 : Int) := of_decide_eq_true (by first | (with_reducible assumption) | assumption)
                have q496 : x7_1 < (l1_1.length : Int) := of_decide_eq_true (by first | (with_reducible assumption) | assumption)
                obtain ⟨ad496, e496, hx496_0⟩ := Kd.at_int HR1_1.out x7_1 p496 q496
                cases e496
                replace hx496_0 := (HB.out.cell (World.block_lt_of_cell? w _ hx496_0)).trans hx496_0
                replace p496 := eq_true p496
                replace q496 := eq_true q496
                have hcz20_0 : wr.cell? ⟨gb495, 0, none⟩ = some (.bool a2_0) := (blk_cell BK495.out 0).trans rfl
                have hcz20_1 : wr.cell? ⟨gb495, 1, none⟩ = some (.slice A2_1 l2_1.length c2_1) := (blk_cell BK495.out 1).trans rfl
                have hcz20_2 : wr.cell? ⟨gb495, 2, none⟩ = some (.slice A2_2 l2_2.length c2_2) := (blk_cell BK495.out 2).trans rfl
                have hfz20_0 := blk_frozen BK495.out 0
                have hfz20_1 := blk_frozen BK495.out 1
                have hfz20_2 := blk_frozen BK495.out 2
                have p497 : 0 ≤ (x7_1 : Int) := of_decide_eq_true (by first | (with_reducible assumption) | assumption)
                have q497 : x7_1 < (l2_1.length : Int) := of_decide_eq_true (by first | (with_reducible assumption) | assumption)
                obtain ⟨ad497, e497, hx497_0⟩ := Kd.at_int HR2_1.out x7_1 p497 q497
                cases e497
                replace hx497_0 := (HB.out.cell (World.block_lt_of_cell? w _ hx497_0)).trans hx497_0
                replace p497 := eq_true p497
                replace q497 := eq_true q497
                go_wp2_with (first | (go_at_call 73; (with_reducible refine (spec_l2In.calls k1 _ _ l0 (rd l1_1 x7_1) (rd l2_1 x7_1) false _ ?side1 ?side2 A13.out).mono ?_); (case side1 => repeat (first | exact (Kd.C_below HR0.out HB.out) | (with_reducible refine Kd.C_alloc ?_ _) | (with_reducible refine Kd.C_drewN ?_ _) | (with_reducible refine Kd.C_drew ?_))); (case side2 => exact HC0.out); rintro e w' ⟨rfl, ⟨nd, rfl⟩⟩; (try first | exact ⟨rfl, _, World.drewN_drewN _ _ _⟩ | exact ⟨rfl, _, Eq.trans (World.drewN_drewN _ _ _) (congrArg (World.drewN _) (Nat.add_assoc _ _ _))⟩)))
                repeat (go_quiet (first | (go_at_call 73; (with_reducible refine (spec_l2In.calls k1 _ _ l0 (rd l1_1 x7_1) (rd l2_1 x7_1) false _ ?side1 ?side2 A13.out).mono ?_); (case side1 => repeat (first | exact (Kd.C_below HR0.out HB.out) | (with_reducible refine Kd.C_alloc ?_ _) | (with_reducible refine Kd.C_drewN ?_ _) | (with_reducible refine Kd.C_drew ?_))); (case side2 => exact HC0.out); rintro e w' ⟨rfl, ⟨nd, rfl⟩⟩; (try first | exact ⟨rfl, _, World.drewN_drewN _ _ _⟩ | exact ⟨rfl, _, Eq.trans (World.drewN_drewN _ _ _) (congrArg (World.drewN _) (Nat.add_assoc _ _ _))⟩))); try go_wp2_with (first | (go_at_call 73; (with_reducible refine (spec_l2In.calls k1 _ _ l0 (rd l1_1 x7_1) (rd l2_1 x7_1) false _ ?side1 ?side2 A13.out).mono ?_); (case side1 => repeat (first | exact (Kd.C_below HR0.out HB.out) | (with_reducible refine Kd.C_alloc ?_ _) | (with_reducible refine Kd.C_drewN ?_ _) | (with_reducible refine Kd.C_drew ?_))); (case side2 => exact HC0.out); rintro e w' ⟨rfl, ⟨nd, rfl⟩⟩; (try first | exact ⟨rfl, _, World.drewN_drewN _ _ _⟩ | exact ⟨rfl, _, Eq.trans (World.drewN_drewN _ _ _) (congrArg (World.drewN _) (Nat.add_assoc _ _ _))⟩))))
                go_ret
                exact ⟨by first | rfl | (simp [errW_none, errW_some] <;> rfl) | (simp [*, errW_none, errW_some] <;> rfl), by repeat (first | (with_reducible first | exact HB.out | apply below_alloc | apply pw_below_drewN | apply below_drew1 | refine below_set ?_ GE494.out | refine below_set ?_ GE495.out) | exact HB.out)⟩
            · rw [if_neg c12] at H
              exact absurd H (by simp)
          · rw [if_neg c11] at H
            exact absurd H (by simp)
        · rw [if_neg c10] at H
          have c10b0 : decide (x7_1 < (l1_1.length : Int)) = false := decide_eq_false c10
          clear c10
          have H' := Aside0.mk H
          clear H
          have hnb21 := NB494_495.out
          have hnc21 := NB495_494.out
          have hcz22_0 : wr.cell? ⟨gb494, 0, none⟩ = some (.bool a1_0) := (blk_cell BK494.out 0).trans rfl
          have hcz22_1 : wr.cell? ⟨gb494, 1, none⟩ = some (.slice A1_1 l1_1.length c1_1) := (blk_cell BK494.out 1).trans rfl
          have hcz22_2 : wr.cell? ⟨gb494, 2, none⟩ = some (.slice A1_2 l1_2.length c1_2) := (blk_cell BK494.out 2).trans rfl
          have hfz22_0 := blk_frozen BK494.out 0
          have hfz22_1 := blk_frozen BK494.out 1
          have hfz22_2 := blk_frozen BK494.out 2
          go_wp2
          repeat (go_quiet (fail); try go_wp2)
          go_loopg [8] k1 (fun kq v8 w' => ∃ (x8_2 : Int), v8 = .int .i64 x8_2 ∧ Aside0 (spec_l11In.l1 kq l0 x8_2 a1_0 l1_1 l1_2 a2_0 l2_1 l2_2 = some r) ∧ Aside0 (kq ≤ k1) ∧ Aside0 (w'.heap[gb494]? = some (.cells #[.bool a1_0, (.slice A1_1 l1_1.length c1_1), (.slice A1_2 l1_2.length c1_2)] 52 (0, 0))) ∧ Aside0 (w'.heap[gb495]? = some (.cells #[.bool a2_0, (.slice A2_1 l2_1.length c2_1), (.slice A2_2 l2_2.length c2_2)] 52 (0, 0))) ∧ Aside0 (Below w.heap.size w w'))
          case atStart => exact ⟨(0), (by first | rfl | (simp; done) | (simp [*]; done)), H', ⟨Nat.le_refl _⟩, ⟨by (with_reducible repeat (first | refine blk_drewN ?_ _ | refine blk_drew ?_ | refine blk_alloc ?_ _)); exact BK494.out⟩, ⟨by (with_reducible repeat (first | refine blk_drewN ?_ _ | refine blk_drew ?_ | refine blk_alloc ?_ _)); exact BK495.out⟩, ⟨by repeat (first | (with_reducible first | exact HB.out | apply below_alloc | apply pw_below_drewN | apply below_drew1 | refine below_set ?_ GE494.out | refine below_set ?_ GE495.out) | exact HB.out)⟩⟩
          case round =>
            clear H'
            try clear c1
            try clear c2
            try clear p2
            try clear c4
            try clear c4b0
            try clear c4b1
            try clear c4b2
            try clear p4
            try clear q4
            try clear hx4
            try clear p6
            try clear c7
            try clear c8
            try clear c10
            try clear c10b0
            try clear c11
            try clear c11b0
            try clear c12
            try clear c12b0
            try clear c14
            try clear c15
            try clear c18
            try clear c21
            try clear hcz16_0
            try clear hcz16_1
            try clear hcz16_2
            try clear hcz17_0
            try clear hcz17_1
            try clear hcz17_2
            try clear hcz19_0
            try clear hcz19_1
            try clear hcz19_2
            try clear hcz20_0
            try clear hcz20_1
            try clear hcz20_2
            try clear hcz22_0
            try clear hcz22_1
            try clear hcz22_2
            try clear hcz8_0
            try clear hcz8_1
            try clear hcz8_2
            try clear hcz9_0
            try clear hcz9_1
            try clear hcz9_2
            try clear hfz16_0
            try clear hfz16_1
            try clear hfz16_2
            try clear hfz17_0
            try clear hfz17_1
            try clear hfz17_2
            try clear hfz19_0
            try clear hfz19_1
            try clear hfz19_2
            try clear hfz20_0
            try clear hfz20_1
            try clear hfz20_2
            try clear hfz22_0
            try clear hfz22_1
            try clear hfz22_2
            try clear hfz8_0
            try clear hfz8_1
            try clear hfz8_2
            try clear hfz9_0
            try clear hfz9_1
            try clear hfz9_2
            try clear hx496_0
            try clear hx497_0
            try clear p2
            try clear p496
            try clear p497
            try clear q496
            try clear q497
            obtain ⟨x8_2, rfl, HA, HK2, BK494, BK495, HB⟩ := hrel
            cases gk with
            | zero => exact absurd HA.out (by simp [spec_l11In.l1])
            | succ k2 =>
              have H := HA.out
              clear HA
              simp only [spec_l11In.l1] at H
              by_cases c23 : x8_2 < (l1_2.length : Int)
              · rw [if_pos c23] at H
                have c23b0 : decide (x8_2 < (l1_2.length : Int)) = true := decide_eq_true c23
                clear c23
                by_cases c24 : 0 ≤ x8_2
                · rw [if_pos c24] at H
                  have c24b0 : decide (0 ≤ x8_2) = true := decide_eq_true c24
                  clear c24
                  by_cases c25 : x8_2 < (l2_2.length : Int)
                  · rw [if_pos c25] at H
                    have c25b0 : decide (x8_2 < (l2_2.length : Int)) = true := decide_eq_true c25
                    clear c25
                    replace H := Option.bind_eq_some_iff.mp H
                    obtain ⟨t501, A260, H⟩ := H
                    replace H : (if t501 = true then (spec_l11In.l1 k2 l0 (wrap64 (x8_2 + 1)) a1_0 l1_1 l1_2 a2_0 l2_1 l2_2) else (some false)) = some r := H
                    have A26 := Aside0.mk A260
                    clear A260
                    by_cases c27 : t501 = true
                    · subst c27
                      have H1 : (spec_l11In.l1 k2 l0 (wrap64 (x8_2 + 1)) a1_0 l1_1 l1_2 a2_0 l2_1 l2_2) = some r := by rw [if_pos rfl] at H; exact H
                      clear H
                      have H := H1
                      clear H1
                      have H' := Aside0.mk H
                      clear H
                      have hnb28 := NB494_495.out
                      have hnc28 := NB495_494.out
                      have hcz29_0 : wr.cell? ⟨gb494, 0, none⟩ = some (.bool a1_0) := (blk_cell BK494.out 0).trans rfl
                      have hcz29_1 : wr.cell? ⟨gb494, 1, none⟩ = some (.slice A1_1 l1_1.length c1_1) := (blk_cell BK494.out 1).trans rfl
                      have hcz29_2 : wr.cell? ⟨gb494, 2, none⟩ = some (.slice A1_2 l1_2.length c1_2) := (blk_cell BK494.out 2).trans rfl
                      have hfz29_0 := blk_frozen BK494.out 0
                      have hfz29_1 := blk_frozen BK494.out 1
                      have hfz29_2 := blk_frozen BK494.out 2
                      have p499 : 0 ≤ (x8_2 : Int) := of_decide_eq_true (by first | (with_reducible assumption) | assumption)
                      have q499 : x8_2 < (l1_2.length : Int) := of_decide_eq_true (by first | (with_reducible assumption) | assumption)
                      obtain ⟨ad499, e499, hx499_0⟩ := Kd.at_int HR1_2.out x8_2 p499 q499
                      cases e499
                      replace hx499_0 := (HB.out.cell (World.block_lt_of_cell? w _ hx499_0)).trans hx499_0
                      replace p499 := eq_true p499
                      replace q499 := eq_true q499
                      have hcz30_0 : wr.cell? ⟨gb495, 0, none⟩ = some (.bool a2_0) := (blk_cell BK495.out 0).trans rfl
                      have hcz30_1 : wr.cell? ⟨gb495, 1, none⟩ = some (.slice A2_1 l2_1.length c2_1) := (blk_cell BK495.out 1).trans rfl
                      have hcz30_2 : wr.cell? ⟨gb495, 2, none⟩ = some (.slice A2_2 l2_2.length c2_2) := (blk_cell BK495.out 2).trans rfl
                      have hfz30_0 := blk_frozen BK495.out 0
                      have hfz30_1 := blk_frozen BK495.out 1
                      have hfz30_2 := blk_frozen BK495.out 2
                      have p500 : 0 ≤ (x8_2 : Int) := of_decide_eq_true (by first | (with_reducible assumption) | assumption)
                      have q500 : x8_2 < (l2_2.length : Int) := of_decide_eq_true (by first | (with_reducible assumption) | assumption)
                      obtain ⟨ad500, e500, hx500_0⟩ := Kd.at_int HR2_2.out x8_2 p500 q500
                      cases e500
                      replace hx500_0 := (HB.out.cell (World.block_lt_of_cell? w _ hx500_0)).trans hx500_0
                      replace p500 := eq_true p500
                      replace q500 := eq_true q500
                      go_wp2_with (first | (go_at_call 73; (with_reducible refine (spec_l2In.calls k2 _ _ l0 (rd l1_2 x8_2) (rd l2_2 x8_2) true _ ?side1 ?side2 A26.out).mono ?_); (case side1 => repeat (first | exact (Kd.C_below HR0.out HB.out) | (with_reducible refine Kd.C_alloc ?_ _) | (with_reducible refine Kd.C_drewN ?_ _) | (with_reducible refine Kd.C_drew ?_))); (case side2 => exact HC0.out); rintro e w' ⟨rfl, ⟨nd, rfl⟩⟩; (try first | exact ⟨rfl, _, World.drewN_drewN _ _ _⟩ | exact ⟨rfl, _, Eq.trans (World.drewN_drewN _ _ _) (congrArg (World.drewN _) (Nat.add_assoc _ _ _))⟩)))
                      repeat (go_quiet (first | (go_at_call 73; (with_reducible refine (spec_l2In.calls k2 _ _ l0 (rd l1_2 x8_2) (rd l2_2 x8_2) true _ ?side1 ?side2 A26.out).mono ?_); (case side1 => repeat (first | exact (Kd.C_below HR0.out HB.out) | (with_reducible refine Kd.C_alloc ?_ _) | (with_reducible refine Kd.C_drewN ?_ _) | (with_reducible refine Kd.C_drew ?_))); (case side2 => exact HC0.out); rintro e w' ⟨rfl, ⟨nd, rfl⟩⟩; (try first | exact ⟨rfl, _, World.drewN_drewN _ _ _⟩ | exact ⟨rfl, _, Eq.trans (World.drewN_drewN _ _ _) (congrArg (World.drewN _) (Nat.add_assoc _ _ _))⟩))); try go_wp2_with (first | (go_at_call 73; (with_reducible refine (spec_l2In.calls k2 _ _ l0 (rd l1_2 x8_2) (rd l2_2 x8_2) true _ ?side1 ?side2 A26.out).mono ?_); (case side1 => repeat (first | exact (Kd.C_below HR0.out HB.out) | (with_reducible refine Kd.C_alloc ?_ _) | (with_reducible refine Kd.C_drewN ?_ _) | (with_reducible refine Kd.C_drew ?_))); (case side2 => exact HC0.out); rintro e w' ⟨rfl, ⟨nd, rfl⟩⟩; (try first | exact ⟨rfl, _, World.drewN_drewN _ _ _⟩ | exact ⟨rfl, _, Eq.trans (World.drewN_drewN _ _ _) (congrArg (World.drewN _) (Nat.add_assoc _ _ _))⟩))))
                      go_roundg k2
                      case measure => have := HK1.out; have := HK2.out; omega
                      case rel => exact ⟨(wrap64 (x8_2 + 1)), (by first | rfl | (simp; done) | (simp [*]; done)), H', ⟨by have := HK1.out; have := HK2.out; omega⟩, ⟨by (with_reducible repeat (first | refine blk_drewN ?_ _ | refine blk_drew ?_ | refine blk_alloc ?_ _)); exact BK494.out⟩, ⟨by (with_reducible repeat (first | refine blk_drewN ?_ _ | refine blk_drew ?_ | refine blk_alloc ?_ _)); exact BK495.out⟩, ⟨by repeat (first | (with_reducible first | exact HB.out | apply below_alloc | apply pw_below_drewN | apply below_drew1 | refine below_set ?_ GE494.out | refine below_set ?_ GE495.out) | exact HB.out)⟩⟩
                    · replace c27 := Bool.eq_false_iff.mpr c27
                      subst c27
                      have H1 : (some false) = some r := by rw [if_neg (show ¬ (false = true) by decide)] at H; exact H
                      clear H
                      have H := H1
                      clear H1
                      obtain rfl := Option.some.inj H
                      have hnb31 := NB494_495.out
                      have hnc31 := NB495_494.out
                      have hcz32_0 : wr.cell? ⟨gb494, 0, none⟩ = some (.bool a1_0) := (blk_cell BK494.out 0).trans rfl
                      have hcz32_1 : wr.cell? ⟨gb494, 1, none⟩ = some (.slice A1_1 l1_1.length c1_1) := (blk_cell BK494.out 1).trans rfl
                      have hcz32_2 : wr.cell? ⟨gb494, 2, none⟩ = some (.slice A1_2 l1_2.length c1_2) := (blk_cell BK494.out 2).trans rfl
                      have hfz32_0 := blk_frozen BK494.out 0
                      have hfz32_1 := blk_frozen BK494.out 1
                      have hfz32_2 := blk_frozen BK494.out 2
                      have p499 : 0 ≤ (x8_2 : Int) := of_decide_eq_true (by first | (with_reducible assumption) | assumption)
                      have q499 : x8_2 < (l1_2.length : Int) := of_decide_eq_true (by first | (with_reducible assumption) | assumption)
                      obtain ⟨ad499, e499, hx499_0⟩ := Kd.at_int HR1_2.out x8_2 p499 q499
                      cases e499
                      replace hx499_0 := (HB.out.cell (World.block_lt_of_cell? w _ hx499_0)).trans hx499_0
                      replace p499 := eq_true p499
                      replace q499 := eq_true q499
                      have hcz33_0 : wr.cell? ⟨gb495, 0, none⟩ = some (.bool a2_0) := (blk_cell BK495.out 0).trans rfl
                      have hcz33_1 : wr.cell? ⟨gb495, 1, none⟩ = some (.slice A2_1 l2_1.length c2_1) := (blk_cell BK495.out 1).trans rfl
                      have hcz33_2 : wr.cell? ⟨gb495, 2, none⟩ = some (.slice A2_2 l2_2.length c2_2) := (blk_cell BK495.out 2).trans rfl
                      have hfz33_0 := blk_frozen BK495.out 0
                      have hfz33_1 := blk_frozen BK495.out 1
                      have hfz33_2 := blk_frozen BK495.out 2
                      have p500 : 0 ≤ (x8_2 : Int) := of_decide_eq_true (by first | (with_reducible assumption) | assumption)
                      have q500 : x8_2 < (l2_2.length : Int) := of_decide_eq_true (by first | (with_reducible assumption) | assumption)
                      obtain ⟨ad500, e500, hx500_0⟩ := Kd.at_int HR2_2.out x8_2 p500 q500
                      cases e500
                      replace hx500_0 := (HB.out.cell (World.block_lt_of_cell? w _ hx500_0)).trans hx500_0
                      replace p500 := eq_true p500
                      replace q500 := eq_true q500
                      go_wp2_with (first | (go_at_call 73; (with_reducible refine (spec_l2In.calls k2 _ _ l0 (rd l1_2 x8_2) (rd l2_2 x8_2) false _ ?side1 ?side2 A26.out).mono ?_); (case side1 => repeat (first | exact (Kd.C_below HR0.out HB.out) | (with_reducible refine Kd.C_alloc ?_ _) | (with_reducible refine Kd.C_drewN ?_ _) | (with_reducible refine Kd.C_drew ?_))); (case side2 => exact HC0.out); rintro e w' ⟨rfl, ⟨nd, rfl⟩⟩; (try first | exact ⟨rfl, _, World.drewN_drewN _ _ _⟩ | exact ⟨rfl, _, Eq.trans (World.drewN_drewN _ _ _) (congrArg (World.drewN _) (Nat.add_assoc _ _ _))⟩)))
                      repeat (go_quiet (first | (go_at_call 73; (with_reducible refine (spec_l2In.calls k2 _ _ l0 (rd l1_2 x8_2) (rd l2_2 x8_2) false _ ?side1 ?side2 A26.out).mono ?_); (case side1 => repeat (first | exact (Kd.C_below HR0.out HB.out) | (with_reducible refine Kd.C_alloc ?_ _) | (with_reducible refine Kd.C_drewN ?_ _) | (with_reducible refine Kd.C_drew ?_))); (case side2 => exact HC0.out); rintro e w' ⟨rfl, ⟨nd, rfl⟩⟩; (try first | exact ⟨rfl, _, World.drewN_drewN _ _ _⟩ | exact ⟨rfl, _, Eq.trans (World.drewN_drewN _ _ _) (congrArg (World.drewN _) (Nat.add_assoc _ _ _))⟩))); try go_wp2_with (first | (go_at_call 73; (with_reducible refine (spec_l2In.calls k2 _ _ l0 (rd l1_2 x8_2) (rd l2_2 x8_2) false _ ?side1 ?side2 A26.out).mono ?_); (case side1 => repeat (first | exact (Kd.C_below HR0.out HB.out) | (with_reducible refine Kd.C_alloc ?_ _) | (with_reducible refine Kd.C_drewN ?_ _) | (with_reducible refine Kd.C_drew ?_))); (case side2 => exact HC0.out); rintro e w' ⟨rfl, ⟨nd, rfl⟩⟩; (try first | exact ⟨rfl, _, World.drewN_drewN _ _ _⟩ | exact ⟨rfl, _, Eq.trans (World.drewN_drewN _ _ _) (congrArg (World.drewN _) (Nat.add_assoc _ _ _))⟩))))
                      go_ret
                      exact ⟨by first | rfl | (simp [errW_none, errW_some] <;> rfl) | (simp [*, errW_none, errW_some] <;> rfl), by repeat (first | (with_reducible first | exact HB.out | apply below_alloc | apply pw_below_drewN | apply below_drew1 | refine below_set ?_ GE494.out | refine below_set ?_ GE495.out) | exact HB.out)⟩
                  · rw [if_neg c25] at H
                    exact absurd H (by simp)
                · rw [if_neg c24] at H
                  exact absurd H (by simp)
              · rw [if_neg c23] at H
                have c23b0 : decide (x8_2 < (l1_2.length : Int)) = false := decide_eq_false c23
                clear c23
                obtain rfl := Option.some.inj H
                have hnb34 := NB494_495.out
                have hnc34 := NB495_494.out
                have hcz35_0 : wr.cell? ⟨gb494, 0, none⟩ = some (.bool a1_0) := (blk_cell BK494.out 0).trans rfl
                have hcz35_1 : wr.cell? ⟨gb494, 1, none⟩ = some (.slice A1_1 l1_1.length c1_1) := (blk_cell BK494.out 1).trans rfl
                have hcz35_2 : wr.cell? ⟨gb494, 2, none⟩ = some (.slice A1_2 l1_2.length c1_2) := (blk_cell BK494.out 2).trans rfl
                have hfz35_0 := blk_frozen BK494.out 0
                have hfz35_1 := blk_frozen BK494.out 1
                have hfz35_2 := blk_frozen BK494.out 2
                go_wp2
                repeat (go_quiet (fail); try go_wp2)
                go_ret
                exact ⟨by first | rfl | (simp [errW_none, errW_some] <;> rfl) | (simp [*, errW_none, errW_some] <;> rfl), by repeat (first | (with_reducible first | exact HB.out | apply below_alloc | apply pw_below_drewN | apply below_drew1 | refine below_set ?_ GE494.out | refine below_set ?_ GE495.out) | exact HB.out)⟩
  · rw [if_neg c4] at H
    have c4b0 : ((l1_2.length : Int) == (l2_2.length : Int)) = false := beq_eq_false_iff_ne.mpr c4
    have c4b1 : ((l1_2.length : Int) != (l2_2.length : Int)) = true := bne_iff_ne.mpr c4
    have c4b2 : (l1_2.length == l2_2.length) = false := by first | simpa using c4 | (simp at c4 ⊢; omega)
    obtain rfl := Option.some.inj H
    go_enter Try.func84, Try.ntmps84
    go_wp2_with (first | ((with_reducible refine gate_dst (N := 4) rfl ?_); refine box_event ?hg (N := 4) ?hd (cs := #[.bool a1_0, .slice A1_1 l1_1.length c1_1, .slice A1_2 l1_2.length c1_2]) (t := 52) ?hr ?_; (case hd => rfl); (case hg => rfl); (case hr => first | (go_simp; done) | (go_simp; rfl)); intro gb494 hg w36 hbox hb; have n0_ := Aside0.mk (below_step (by repeat (first | (with_reducible first | exact HB.out | apply below_alloc | apply pw_below_drewN | apply below_drew1) | exact HB.out)) hb); have n1_ := Aside0.mk (hbox); have n2_ := Aside0.mk ((by rw [hg]; exact (below_size (by repeat (first | (with_reducible first | exact HB.out | apply below_alloc | apply pw_below_drewN | apply below_drew1) | exact HB.out))) : w.heap.size ≤ gb494)); have n3_ := Aside0.mk ((by rw [hg]; exact (below_size (by repeat (first | (with_reducible first | exact HB.out | apply below_alloc | apply pw_below_drewN | apply below_drew1) | exact HB.out))) : w.heap.size ≤ gb494)); clear HB; have HB := n0_; have BK494 := n1_; have GW494 := n2_; have GE494 := n3_; clear n0_ n1_ n2_ n3_; clear hb hbox hg) | ((with_reducible refine gate_dst (N := 5) rfl ?_); refine box_event ?hg (N := 5) ?hd (cs := #[.bool a2_0, .slice A2_1 l2_1.length c2_1, .slice A2_2 l2_2.length c2_2]) (t := 52) ?hr ?_; (case hd => rfl); (case hg => rfl); (case hr => first | (go_simp; done) | (go_simp; rfl)); intro gb495 hg w37 hbox hb; have n0_ := Aside0.mk (blk_below (g := gb494) (o := .cells #[.bool a1_0, .slice A1_1 l1_1.length c1_1, .slice A1_2 l1_2.length c1_2] 52 (0, 0)) (by (with_reducible repeat (first | refine blk_drewN ?_ _ | refine blk_drew ?_ | refine blk_alloc ?_ _)); exact BK494.out) hb); have n1_ := Aside0.mk (below_step (by repeat (first | (with_reducible first | exact HB.out | apply below_alloc | apply pw_below_drewN | apply below_drew1 | refine below_set ?_ GE494.out) | exact HB.out)) hb); have n2_ := Aside0.mk (hbox); have n3_ := Aside0.mk ((by rw [hg]; exact (below_size (by repeat (first | (with_reducible first | exact HB.out | apply below_alloc | apply pw_below_drewN | apply below_drew1 | refine below_set ?_ GE494.out) | exact HB.out))) : w.heap.size ≤ gb495)); have n4_ := Aside0.mk ((by rw [hg]; exact (below_size (by repeat (first | (with_reducible first | exact HB.out | apply below_alloc | apply pw_below_drewN | apply below_drew1 | refine below_set ?_ GE494.out) | exact HB.out))) : w.heap.size ≤ gb495)); have n5_ := Aside0.mk ((by rw [hg]; exact Nat.ne_of_lt (blk_lt (g := gb494) (o := .cells #[.bool a1_0, .slice A1_1 l1_1.length c1_1, .slice A1_2 l1_2.length c1_2] 52 (0, 0)) (by (with_reducible repeat (first | refine blk_drewN ?_ _ | refine blk_drew ?_ | refine blk_alloc ?_ _)); exact BK494.out)) : gb494 ≠ gb495)); have n6_ := Aside0.mk ((by rw [hg]; exact Nat.ne_of_gt (blk_lt (g := gb494) (o := .cells #[.bool a1_0, .slice A1_1 l1_1.length c1_1, .slice A1_2 l1_2.length c1_2] 52 (0, 0)) (by (with_reducible repeat (first | refine blk_drewN ?_ _ | refine blk_drew ?_ | refine blk_alloc ?_ _)); exact BK494.out)) : gb495 ≠ gb494)); clear BK494; clear HB; have BK494 := n0_; have HB := n1_; have BK495 := n2_; have GW495 := n3_; have GE495 := n4_; have NB494_495 := n5_; have NB495_494 := n6_; clear n0_ n1_ n2_ n3_ n4_ n5_ n6_; clear hb hbox hg; have hnb38 := NB494_495.out; have hnc38 := NB495_494.out; have hcz39_0 : w37.cell? ⟨gb494, 0, none⟩ = some (.bool a1_0) := (blk_cell BK494.out 0).trans rfl; have hcz39_1 : w37.cell? ⟨gb494, 1, none⟩ = some (.slice A1_1 l1_1.length c1_1) := (blk_cell BK494.out 1).trans rfl; have hcz39_2 : w37.cell? ⟨gb494, 2, none⟩ = some (.slice A1_2 l1_2.length c1_2) := (blk_cell BK494.out 2).trans rfl; have hfz39_0 := blk_frozen BK494.out 0; have hfz39_1 := blk_frozen BK494.out 1; have hfz39_2 := blk_frozen BK494.out 2; have hcz40_0 : w37.cell? ⟨gb495, 0, none⟩ = some (.bool a2_0) := (blk_cell BK495.out 0).trans rfl; have hcz40_1 : w37.cell? ⟨gb495, 1, none⟩ = some (.slice A2_1 l2_1.length c2_1) := (blk_cell BK495.out 1).trans rfl; have hcz40_2 : w37.cell? ⟨gb495, 2, none⟩ = some (.slice A2_2 l2_2.length c2_2) := (blk_cell BK495.out 2).trans rfl; have hfz40_0 := blk_frozen BK495.out 0; have hfz40_1 := blk_frozen BK495.out 1; have hfz40_2 := blk_frozen BK495.out 2))
    repeat (go_quiet (first | ((with_reducible refine gate_dst (N := 4) rfl ?_); refine box_event ?hg (N := 4) ?hd (cs := #[.bool a1_0, .slice A1_1 l1_1.length c1_1, .slice A1_2 l1_2.length c1_2]) (t := 52) ?hr ?_; (case hd => rfl); (case hg => rfl); (case hr => first | (go_simp; done) | (go_simp; rfl)); intro gb494 hg w36 hbox hb; have n0_ := Aside0.mk (below_step (by repeat (first | (with_reducible first | exact HB.out | apply below_alloc | apply pw_below_drewN | apply below_drew1) | exact HB.out)) hb); have n1_ := Aside0.mk (hbox); have n2_ := Aside0.mk ((by rw [hg]; exact (below_size (by repeat (first | (with_reducible first | exact HB.out | apply below_alloc | apply pw_below_drewN | apply below_drew1) | exact HB.out))) : w.heap.size ≤ gb494)); have n3_ := Aside0.mk ((by rw [hg]; exact (below_size (by repeat (first | (with_reducible first | exact HB.out | apply below_alloc | apply pw_below_drewN | apply below_drew1) | exact HB.out))) : w.heap.size ≤ gb494)); clear HB; have HB := n0_; have BK494 := n1_; have GW494 := n2_; have GE494 := n3_; clear n0_ n1_ n2_ n3_; clear hb hbox hg) | ((with_reducible refine gate_dst (N := 5) rfl ?_); refine box_event ?hg (N := 5) ?hd (cs := #[.bool a2_0, .slice A2_1 l2_1.length c2_1, .slice A2_2 l2_2.length c2_2]) (t := 52) ?hr ?_; (case hd => rfl); (case hg => rfl); (case hr => first | (go_simp; done) | (go_simp; rfl)); intro gb495 hg w37 hbox hb; have n0_ := Aside0.mk (blk_below (g := gb494) (o := .cells #[.bool a1_0, .slice A1_1 l1_1.length c1_1, .slice A1_2 l1_2.length c1_2] 52 (0, 0)) (by (with_reducible repeat (first | refine blk_drewN ?_ _ | refine blk_drew ?_ | refine blk_alloc ?_ _)); exact BK494.out) hb); have n1_ := Aside0.mk (below_step (by repeat (first | (with_reducible first | exact HB.out | apply below_alloc | apply pw_below_drewN | apply below_drew1 | refine below_set ?_ GE494.out) | exact HB.out)) hb); have n2_ := Aside0.mk (hbox); have n3_ := Aside0.mk ((by rw [hg]; exact (below_size (by repeat (first | (with_reducible first | exact HB.out | apply below_alloc | apply pw_below_drewN | apply below_drew1 | refine below_set ?_ GE494.out) | exact HB.out))) : w.heap.size ≤ gb495)); have n4_ := Aside0.mk ((by rw [hg]; exact (below_size (by repeat (first | (with_reducible first | exact HB.out | apply below_alloc | apply pw_below_drewN | apply below_drew1 | refine below_set ?_ GE494.out) | exact HB.out))) : w.heap.size ≤ gb495)); have n5_ := Aside0.mk ((by rw [hg]; exact Nat.ne_of_lt (blk_lt (g := gb494) (o := .cells #[.bool a1_0, .slice A1_1 l1_1.length c1_1, .slice A1_2 l1_2.length c1_2] 52 (0, 0)) (by (with_reducible repeat (first | refine blk_drewN ?_ _ | refine blk_drew ?_ | refine blk_alloc ?_ _)); exact BK494.out)) : gb494 ≠ gb495)); have n6_ := Aside0.mk ((by rw [hg]; exact Nat.ne_of_gt (blk_lt (g := gb494) (o := .cells #[.bool a1_0, .slice A1_1 l1_1.length c1_1, .slice A1_2 l1_2.length c1_2] 52 (0, 0)) (by (with_reducible repeat (first | refine blk_drewN ?_ _ | refine blk_drew ?_ | refine blk_alloc ?_ _)); exact BK494.out)) : gb495 ≠ gb494)); clear BK494; clear HB; have BK494 := n0_; have HB := n1_; have BK495 := n2_; have GW495 := n3_; have GE495 := n4_; have NB494_495 := n5_; have NB495_494 := n6_; clear n0_ n1_ n2_ n3_ n4_ n5_ n6_; clear hb hbox hg; have hnb38 := NB494_495.out; have hnc38 := NB495_494.out; have hcz39_0 : w37.cell? ⟨gb494, 0, none⟩ = some (.bool a1_0) := (blk_cell BK494.out 0).trans rfl; have hcz39_1 : w37.cell? ⟨gb494, 1, none⟩ = some (.slice A1_1 l1_1.length c1_1) := (blk_cell BK494.out 1).trans rfl; have hcz39_2 : w37.cell? ⟨gb494, 2, none⟩ = some (.slice A1_2 l1_2.length c1_2) := (blk_cell BK494.out 2).trans rfl; have hfz39_0 := blk_frozen BK494.out 0; have hfz39_1 := blk_frozen BK494.out 1; have hfz39_2 := blk_frozen BK494.out 2; have hcz40_0 : w37.cell? ⟨gb495, 0, none⟩ = some (.bool a2_0) := (blk_cell BK495.out 0).trans rfl; have hcz40_1 : w37.cell? ⟨gb495, 1, none⟩ = some (.slice A2_1 l2_1.length c2_1) := (blk_cell BK495.out 1).trans rfl; have hcz40_2 : w37.cell? ⟨gb495, 2, none⟩ = some (.slice A2_2 l2_2.length c2_2) := (blk_cell BK495.out 2).trans rfl; have hfz40_0 := blk_frozen BK495.out 0; have hfz40_1 := blk_frozen BK495.out 1; have hfz40_2 := blk_frozen BK495.out 2)); try go_wp2_with (first | ((with_reducible refine gate_dst (N := 4) rfl ?_); refine box_event ?hg (N := 4) ?hd (cs := #[.bool a1_0, .slice A1_1 l1_1.length c1_1, .slice A1_2 l1_2.length c1_2]) (t := 52) ?hr ?_; (case hd => rfl); (case hg => rfl); (case hr => first | (go_simp; done) | (go_simp; rfl)); intro gb494 hg w36 hbox hb; have n0_ := Aside0.mk (below_step (by repeat (first | (with_reducible first | exact HB.out | apply below_alloc | apply pw_below_drewN | apply below_drew1) | exact HB.out)) hb); have n1_ := Aside0.mk (hbox); have n2_ := Aside0.mk ((by rw [hg]; exact (below_size (by repeat (first | (with_reducible first | exact HB.out | apply below_alloc | apply pw_below_drewN | apply below_drew1) | exact HB.out))) : w.heap.size ≤ gb494)); have n3_ := Aside0.mk ((by rw [hg]; exact (below_size (by repeat (first | (with_reducible first | exact HB.out | apply below_alloc | apply pw_below_drewN | apply below_drew1) | exact HB.out))) : w.heap.size ≤ gb494)); clear HB; have HB := n0_; have BK494 := n1_; have GW494 := n2_; have GE494 := n3_; clear n0_ n1_ n2_ n3_; clear hb hbox hg) | ((with_reducible refine gate_dst (N := 5) rfl ?_); refine box_event ?hg (N := 5) ?hd (cs := #[.bool a2_0, .slice A2_1 l2_1.length c2_1, .slice A2_2 l2_2.length c2_2]) (t := 52) ?hr ?_; (case hd => rfl); (case hg => rfl); (case hr => first | (go_simp; done) | (go_simp; rfl)); intro gb495 hg w37 hbox hb; have n0_ := Aside0.mk (blk_below (g := gb494) (o := .cells #[.bool a1_0, .slice A1_1 l1_1.length c1_1, .slice A1_2 l1_2.length c1_2] 52 (0, 0)) (by (with_reducible repeat (first | refine blk_drewN ?_ _ | refine blk_drew ?_ | refine blk_alloc ?_ _)); exact BK494.out) hb); have n1_ := Aside0.mk (below_step (by repeat (first | (with_reducible first | exact HB.out | apply below_alloc | apply pw_below_drewN | apply below_drew1 | refine below_set ?_ GE494.out) | exact HB.out)) hb); have n2_ := Aside0.mk (hbox); have n3_ := Aside0.mk ((by rw [hg]; exact (below_size (by repeat (first | (with_reducible first | exact HB.out | apply below_alloc | apply pw_below_drewN | apply below_drew1 | refine below_set ?_ GE494.out) | exact HB.out))) : w.heap.size ≤ gb495)); have n4_ := Aside0.mk ((by rw [hg]; exact (below_size (by repeat (first | (with_reducible first | exact HB.out | apply below_alloc | apply pw_below_drewN | apply below_drew1 | refine below_set ?_ GE494.out) | exact HB.out))) : w.heap.size ≤ gb495)); have n5_ := Aside0.mk ((by rw [hg]; exact Nat.ne_of_lt (blk_lt (g := gb494) (o := .cells #[.bool a1_0, .slice A1_1 l1_1.length c1_1, .slice A1_2 l1_2.length c1_2] 52 (0, 0)) (by (with_reducible repeat (first | refine blk_drewN ?_ _ | refine blk_drew ?_ | refine blk_alloc ?_ _)); exact BK494.out)) : gb494 ≠ gb495)); have n6_ := Aside0.mk ((by rw [hg]; exact Nat.ne_of_gt (blk_lt (g := gb494) (o := .cells #[.bool a1_0, .slice A1_1 l1_1.length c1_1, .slice A1_2 l1_2.length c1_2] 52 (0, 0)) (by (with_reducible repeat (first | refine blk_drewN ?_ _ | refine blk_drew ?_ | refine blk_alloc ?_ _)); exact BK494.out)) : gb495 ≠ gb494)); clear BK494; clear HB; have BK494 := n0_; have HB := n1_; have BK495 := n2_; have GW495 := n3_; have GE495 := n4_; have NB494_495 := n5_; have NB495_494 := n6_; clear n0_ n1_ n2_ n3_ n4_ n5_ n6_; clear hb hbox hg; have hnb38 := NB494_495.out; have hnc38 := NB495_494.out; have hcz39_0 : w37.cell? ⟨gb494, 0, none⟩ = some (.bool a1_0) := (blk_cell BK494.out 0).trans rfl; have hcz39_1 : w37.cell? ⟨gb494, 1, none⟩ = some (.slice A1_1 l1_1.length c1_1) := (blk_cell BK494.out 1).trans rfl; have hcz39_2 : w37.cell? ⟨gb494, 2, none⟩ = some (.slice A1_2 l1_2.length c1_2) := (blk_cell BK494.out 2).trans rfl; have hfz39_0 := blk_frozen BK494.out 0; have hfz39_1 := blk_frozen BK494.out 1; have hfz39_2 := blk_frozen BK494.out 2; have hcz40_0 : w37.cell? ⟨gb495, 0, none⟩ = some (.bool a2_0) := (blk_cell BK495.out 0).trans rfl; have hcz40_1 : w37.cell? ⟨gb495, 1, none⟩ = some (.slice A2_1 l2_1.length c2_1) := (blk_cell BK495.out 1).trans rfl; have hcz40_2 : w37.cell? ⟨gb495, 2, none⟩ = some (.slice A2_2 l2_2.length c2_2) := (blk_cell BK495.out 2).trans rfl; have hfz40_0 := blk_frozen BK495.out 0; have hfz40_1 := blk_frozen BK495.out 1; have hfz40_2 := blk_frozen BK495.out 2)))
    go_ret
    exact ⟨by first | rfl | (simp [errW_none, errW_some] <;> rfl) | (simp [*, errW_none, errW_some] <;> rfl), by repeat (first | (with_reducible first | exact HB.out | apply below_alloc | apply pw_below_drewN | apply below_drew1 | refine below_set ?_ GE494.out | refine below_set ?_ GE495.out) | exact HB.out)⟩

end Go.Proofs.Ytgmjolngnhdafaa.P

end
section
namespace Go.Proofs.Ytgmjolngnhdafaa.P
open Go.RowKit Go.Proofs.YtgmjolngnhdafaaW.PrintWords Go.Proofs.YtgmjolngnhdafaaW.PrintLast Go.Proofs.YtgmjolngnhdafaaW.PrintMore
attribute [local go_sem] max2_int min2_int max_two min_two max_three min_three max_four min_four
set_option linter.unusedVariables false
set_option linter.unusedSimpArgs false

set_option maxHeartbeats 8000000 in
set_option maxRecDepth 100000 in
theorem spec_ShapeIn.calls (k : Nat) (A0 : Option Addr) (c0 : Nat) (l0 : List (S38)) (a1_0 : Bool) (A1_1 : Option Addr) (c1_1 : Nat) (l1_1 : List Int) (A1_2 : Option Addr) (c1_2 : Nat) (l1_2 : List Int) (a2_0 : Bool) (A2_1 : Option Addr) (c2_1 : Nat) (l2_1 : List Int) (A2_2 : Option Addr) (c2_2 : Nat) (l2_2 : List Int) (r : Bool) (w : World) (hr0 : Kd.C k38 w A0 l0.length l0) (hc0 : l0.length ≤ c0) (hr1_1 : Kd.C (Kd.int .i64) w A1_1 l1_1.length l1_1) (hc1_1 : l1_1.length ≤ c1_1) (hr1_2 : Kd.C (Kd.int .i64) w A1_2 l1_2.length l1_2) (hc1_2 : l1_2.length ≤ c1_2) (hr2_1 : Kd.C (Kd.int .i64) w A2_1 l2_1.length l2_1) (hc2_1 : l2_1.length ≤ c2_1) (hr2_2 : Kd.C (Kd.int .i64) w A2_2 l2_2.length l2_2) (hc2_2 : l2_2.length ≤ c2_2) (h : spec_ShapeIn.f k l0 a1_0 l1_1 l1_2 a2_0 l2_1 l2_2 = some r) :
    Calls Try.prog 51 #[.slice A0 l0.length c0, .agg #[.bool a1_0, .slice A1_1 l1_1.length c1_1, .slice A1_2 l1_2.length c1_2], .agg #[.bool a2_0, .slice A2_1 l2_1.length c2_1, .slice A2_2 l2_2.length c2_2]] w fun e w' => e = .returned (.bool r) ∧ Below w.heap.size w w' := by
  have hu52 := Try.underlying52
  have HR0 := Aside0.mk hr0
  have HC0 := Aside0.mk hc0
  clear hr0 hc0
  have HR1_1 := Aside0.mk hr1_1
  have HC1_1 := Aside0.mk hc1_1
  clear hr1_1 hc1_1
  have HR1_2 := Aside0.mk hr1_2
  have HC1_2 := Aside0.mk hc1_2
  clear hr1_2 hc1_2
  have HR2_1 := Aside0.mk hr2_1
  have HC2_1 := Aside0.mk hc2_1
  clear hr2_1 hc2_1
  have HR2_2 := Aside0.mk hr2_2
  have HC2_2 := Aside0.mk hc2_2
  clear hr2_2 hc2_2
  have HB := Aside0.mk (Below.refl w.heap.size w)
  have H : ((spec_l11Fits.f k l0 a1_0 l1_1 l1_2 a2_0 l2_1 l2_2).bind fun t504 => (if t504 = true then ((spec_l11In.f k l0 a1_0 l1_1 l1_2 a2_0 l2_1 l2_2).bind fun t505 => (some t505)) else (some false))) = some r := h
  clear h
  replace H := Option.bind_eq_some_iff.mp H
  obtain ⟨t504, A40, H⟩ := H
  replace H : (if t504 = true then ((spec_l11In.f k l0 a1_0 l1_1 l1_2 a2_0 l2_1 l2_2).bind fun t505 => (some t505)) else (some false)) = some r := H
  have A4 := Aside0.mk A40
  clear A40
  by_cases c5 : t504 = true
  · subst c5
    have H1 : ((spec_l11In.f k l0 a1_0 l1_1 l1_2 a2_0 l2_1 l2_2).bind fun t505 => (some t505)) = some r := by rw [if_pos rfl] at H; exact H
    clear H
    have H := H1
    clear H1
    replace H := Option.bind_eq_some_iff.mp H
    obtain ⟨t505, A60, H⟩ := H
    replace H : (some t505) = some r := H
    have A6 := Aside0.mk A60
    clear A60
    obtain rfl := Option.some.inj H
    go_enter Try.func51, Try.ntmps51
    go_wp2_with (first | ((with_reducible refine gate_dst (N := 4) rfl ?_); refine box_event ?hg (N := 4) ?hd (cs := #[.bool a1_0, .slice A1_1 l1_1.length c1_1, .slice A1_2 l1_2.length c1_2]) (t := 52) ?hr ?_; (case hd => rfl); (case hg => rfl); (case hr => first | (go_simp; done) | (go_simp; rfl)); intro gb502 hg w7 hbox hb; have n0_ := Aside0.mk (below_step (by repeat (first | (with_reducible first | exact HB.out | apply below_alloc | apply pw_below_drewN | apply below_drew1) | exact HB.out)) hb); have n1_ := Aside0.mk (hbox); have n2_ := Aside0.mk ((by rw [hg]; exact (below_size (by repeat (first | (with_reducible first | exact HB.out | apply below_alloc | apply pw_below_drewN | apply below_drew1) | exact HB.out))) : w.heap.size ≤ gb502)); have n3_ := Aside0.mk ((by rw [hg]; exact (below_size (by repeat (first | (with_reducible first | exact HB.out | apply below_alloc | apply pw_below_drewN | apply below_drew1) | exact HB.out))) : w.heap.size ≤ gb502)); clear HB; have HB := n0_; have BK502 := n1_; have GW502 := n2_; have GE502 := n3_; clear n0_ n1_ n2_ n3_; clear hb hbox hg) | ((with_reducible refine gate_dst (N := 5) rfl ?_); refine box_event ?hg (N := 5) ?hd (cs := #[.bool a2_0, .slice A2_1 l2_1.length c2_1, .slice A2_2 l2_2.length c2_2]) (t := 52) ?hr ?_; (case hd => rfl); (case hg => rfl); (case hr => first | (go_simp; done) | (go_simp; rfl)); intro gb503 hg w8 hbox hb; have n0_ := Aside0.mk (blk_below (g := gb502) (o := .cells #[.bool a1_0, .slice A1_1 l1_1.length c1_1, .slice A1_2 l1_2.length c1_2] 52 (0, 0)) (by (with_reducible repeat (first | refine blk_drewN ?_ _ | refine blk_drew ?_ | refine blk_alloc ?_ _)); exact BK502.out) hb); have n1_ := Aside0.mk (below_step (by repeat (first | (with_reducible first | exact HB.out | apply below_alloc | apply pw_below_drewN | apply below_drew1 | refine below_set ?_ GE502.out) | exact HB.out)) hb); have n2_ := Aside0.mk (hbox); have n3_ := Aside0.mk ((by rw [hg]; exact (below_size (by repeat (first | (with_reducible first | exact HB.out | apply below_alloc | apply pw_below_drewN | apply below_drew1 | refine below_set ?_ GE502.out) | exact HB.out))) : w.heap.size ≤ gb503)); have n4_ := Aside0.mk ((by rw [hg]; exact (below_size (by repeat (first | (with_reducible first | exact HB.out | apply below_alloc | apply pw_below_drewN | apply below_drew1 | refine below_set ?_ GE502.out) | exact HB.out))) : w.heap.size ≤ gb503)); have n5_ := Aside0.mk ((by rw [hg]; exact Nat.ne_of_lt (blk_lt (g := gb502) (o := .cells #[.bool a1_0, .slice A1_1 l1_1.length c1_1, .slice A1_2 l1_2.length c1_2] 52 (0, 0)) (by (with_reducible repeat (first | refine blk_drewN ?_ _ | refine blk_drew ?_ | refine blk_alloc ?_ _)); exact BK502.out)) : gb502 ≠ gb503)); have n6_ := Aside0.mk ((by rw [hg]; exact Nat.ne_of_gt (blk_lt (g := gb502) (o := .cells #[.bool a1_0, .slice A1_1 l1_1.length c1_1, .slice A1_2 l1_2.length c1_2] 52 (0, 0)) (by (with_reducible repeat (first | refine blk_drewN ?_ _ | refine blk_drew ?_ | refine blk_alloc ?_ _)); exact BK502.out)) : gb503 ≠ gb502)); clear BK502; clear HB; have BK502 := n0_; have HB := n1_; have BK503 := n2_; have GW503 := n3_; have GE503 := n4_; have NB502_503 := n5_; have NB503_502 := n6_; clear n0_ n1_ n2_ n3_ n4_ n5_ n6_; clear hb hbox hg; have hnb9 := NB502_503.out; have hnc9 := NB503_502.out; have hcz10_0 : w8.cell? ⟨gb502, 0, none⟩ = some (.bool a1_0) := (blk_cell BK502.out 0).trans rfl; have hcz10_1 : w8.cell? ⟨gb502, 1, none⟩ = some (.slice A1_1 l1_1.length c1_1) := (blk_cell BK502.out 1).trans rfl; have hcz10_2 : w8.cell? ⟨gb502, 2, none⟩ = some (.slice A1_2 l1_2.length c1_2) := (blk_cell BK502.out 2).trans rfl; have hfz10_0 := blk_frozen BK502.out 0; have hfz10_1 := blk_frozen BK502.out 1; have hfz10_2 := blk_frozen BK502.out 2; have hcz11_0 : w8.cell? ⟨gb503, 0, none⟩ = some (.bool a2_0) := (blk_cell BK503.out 0).trans rfl; have hcz11_1 : w8.cell? ⟨gb503, 1, none⟩ = some (.slice A2_1 l2_1.length c2_1) := (blk_cell BK503.out 1).trans rfl; have hcz11_2 : w8.cell? ⟨gb503, 2, none⟩ = some (.slice A2_2 l2_2.length c2_2) := (blk_cell BK503.out 2).trans rfl; have hfz11_0 := blk_frozen BK503.out 0; have hfz11_1 := blk_frozen BK503.out 1; have hfz11_2 := blk_frozen BK503.out 2) | ((with_reducible refine gate_callee (f := 83) rfl ?_); refine goesL_ (some 10) rfl rfl Try.func83 (by kernel_rfl) rfl #[.slice A0 l0.length c0, .agg #[.bool a1_0, .slice A1_1 l1_1.length c1_1, .slice A1_2 l1_2.length c1_2], .agg #[.bool a2_0, .slice A2_1 l2_1.length c2_1, .slice A2_2 l2_2.length c2_2]] rfl (by (try simp only [List.map_toArray, List.map_cons, List.map_nil]); first | done | rfl | (simp only [List.length_drop, List.length_take]; rfl)) ?_; (with_reducible refine (spec_l11Fits.calls k _ _ l0 a1_0 _ _ l1_1 _ _ l1_2 a2_0 _ _ l2_1 _ _ l2_2 true _ ?side1 ?side2 ?side3 ?side4 ?side5 ?side6 ?side7 ?side8 ?side9 ?side10 A4.out).mono ?_); (case side1 => repeat (first | exact (Kd.C_below HR0.out HB.out) | (with_reducible refine Kd.C_alloc ?_ _) | (with_reducible refine Kd.C_drewN ?_ _) | (with_reducible refine Kd.C_drew ?_))); (case side2 => exact HC0.out); (case side3 => repeat (first | exact (Kd.C_below HR1_1.out HB.out) | (with_reducible refine Kd.C_alloc ?_ _) | (with_reducible refine Kd.C_drewN ?_ _) | (with_reducible refine Kd.C_drew ?_))); (case side4 => exact HC1_1.out); (case side5 => repeat (first | exact (Kd.C_below HR1_2.out HB.out) | (with_reducible refine Kd.C_alloc ?_ _) | (with_reducible refine Kd.C_drewN ?_ _) | (with_reducible refine Kd.C_drew ?_))); (case side6 => exact HC1_2.out); (case side7 => repeat (first | exact (Kd.C_below HR2_1.out HB.out) | (with_reducible refine Kd.C_alloc ?_ _) | (with_reducible refine Kd.C_drewN ?_ _) | (with_reducible refine Kd.C_drew ?_))); (case side8 => exact HC2_1.out); (case side9 => repeat (first | exact (Kd.C_below HR2_2.out HB.out) | (with_reducible refine Kd.C_alloc ?_ _) | (with_reducible refine Kd.C_drewN ?_ _) | (with_reducible refine Kd.C_drew ?_))); (case side10 => exact HC2_2.out); rintro e w12 ⟨rfl, hb⟩; refine ⟨_, rfl, ?_⟩; have n0_ := Aside0.mk (blk_below (g := gb502) (o := .cells #[.bool a1_0, .slice A1_1 l1_1.length c1_1, .slice A1_2 l1_2.length c1_2] 52 (0, 0)) (by (with_reducible repeat (first | refine blk_drewN ?_ _ | refine blk_drew ?_ | refine blk_alloc ?_ _)); exact BK502.out) hb); have n1_ := Aside0.mk (blk_below (g := gb503) (o := .cells #[.bool a2_0, .slice A2_1 l2_1.length c2_1, .slice A2_2 l2_2.length c2_2] 52 (0, 0)) (by (with_reducible repeat (first | refine blk_drewN ?_ _ | refine blk_drew ?_ | refine blk_alloc ?_ _)); exact BK503.out) hb); have n2_ := Aside0.mk (below_step (by repeat (first | (with_reducible first | exact HB.out | apply below_alloc | apply pw_below_drewN | apply below_drew1 | refine below_set ?_ GE502.out | refine below_set ?_ GE503.out) | exact HB.out)) hb); clear BK502; clear BK503; clear HB; have BK502 := n0_; have BK503 := n1_; have HB := n2_; clear n0_ n1_ n2_; (try clear hb); (try clear hb2); (try clear hk); (try clear hi); have hcz13_0 : w12.cell? ⟨gb502, 0, none⟩ = some (.bool a1_0) := (blk_cell BK502.out 0).trans rfl; have hcz13_1 : w12.cell? ⟨gb502, 1, none⟩ = some (.slice A1_1 l1_1.length c1_1) := (blk_cell BK502.out 1).trans rfl; have hcz13_2 : w12.cell? ⟨gb502, 2, none⟩ = some (.slice A1_2 l1_2.length c1_2) := (blk_cell BK502.out 2).trans rfl; have hfz13_0 := blk_frozen BK502.out 0; have hfz13_1 := blk_frozen BK502.out 1; have hfz13_2 := blk_frozen BK502.out 2; have hcz14_0 : w12.cell? ⟨gb503, 0, none⟩ = some (.bool a2_0) := (blk_cell BK503.out 0).trans rfl; have hcz14_1 : w12.cell? ⟨gb503, 1, none⟩ = some (.slice A2_1 l2_1.length c2_1) := (blk_cell BK503.out 1).trans rfl; have hcz14_2 : w12.cell? ⟨gb503, 2, none⟩ = some (.slice A2_2 l2_2.length c2_2) := (blk_cell BK503.out 2).trans rfl; have hfz14_0 := blk_frozen BK503.out 0; have hfz14_1 := blk_frozen BK503.out 1; have hfz14_2 := blk_frozen BK503.out 2) | (go_at_call 84; (with_reducible refine (spec_l11In.calls k _ _ l0 a1_0 _ _ l1_1 _ _ l1_2 a2_0 _ _ l2_1 _ _ l2_2 t505 _ ?side1 ?side2 ?side3 ?side4 ?side5 ?side6 ?side7 ?side8 ?side9 ?side10 A6.out).mono ?_); (case side1 => repeat (first | exact (Kd.C_below HR0.out HB.out) | (with_reducible refine Kd.C_alloc ?_ _) | (with_reducible refine Kd.C_drewN ?_ _) | (with_reducible refine Kd.C_drew ?_))); (case side2 => exact HC0.out); (case side3 => repeat (first | exact (Kd.C_below HR1_1.out HB.out) | (with_reducible refine Kd.C_alloc ?_ _) | (with_reducible refine Kd.C_drewN ?_ _) | (with_reducible refine Kd.C_drew ?_))); (case side4 => exact HC1_1.out); (case side5 => repeat (first | exact (Kd.C_below HR1_2.out HB.out) | (with_reducible refine Kd.C_alloc ?_ _) | (with_reducible refine Kd.C_drewN ?_ _) | (with_reducible refine Kd.C_drew ?_))); (case side6 => exact HC1_2.out); (case side7 => repeat (first | exact (Kd.C_below HR2_1.out HB.out) | (with_reducible refine Kd.C_alloc ?_ _) | (with_reducible refine Kd.C_drewN ?_ _) | (with_reducible refine Kd.C_drew ?_))); (case side8 => exact HC2_1.out); (case side9 => repeat (first | exact (Kd.C_below HR2_2.out HB.out) | (with_reducible refine Kd.C_alloc ?_ _) | (with_reducible refine Kd.C_drewN ?_ _) | (with_reducible refine Kd.C_drew ?_))); (case side10 => exact HC2_2.out); rintro e w15 ⟨rfl, hb⟩; have n0_ := Aside0.mk (blk_below (g := gb502) (o := .cells #[.bool a1_0, .slice A1_1 l1_1.length c1_1, .slice A1_2 l1_2.length c1_2] 52 (0, 0)) (by (with_reducible repeat (first | refine blk_drewN ?_ _ | refine blk_drew ?_ | refine blk_alloc ?_ _)); exact BK502.out) hb); have n1_ := Aside0.mk (blk_below (g := gb503) (o := .cells #[.bool a2_0, .slice A2_1 l2_1.length c2_1, .slice A2_2 l2_2.length c2_2] 52 (0, 0)) (by (with_reducible repeat (first | refine blk_drewN ?_ _ | refine blk_drew ?_ | refine blk_alloc ?_ _)); exact BK503.out) hb); have n2_ := Aside0.mk (below_step (by repeat (first | (with_reducible first | exact HB.out | apply below_alloc | apply pw_below_drewN | apply below_drew1 | refine below_set ?_ GE502.out | refine below_set ?_ GE503.out) | exact HB.out)) hb); clear BK502; clear BK503; clear HB; have BK502 := n0_; have BK503 := n1_; have HB := n2_; clear n0_ n1_ n2_; (try clear hb); (try clear hb2); (try clear hk); (try clear hi)))
    go_ret
    exact ⟨by first | rfl | (simp [errW_none, errW_some] <;> rfl) | (simp [*, errW_none, errW_some] <;> rfl), by repeat (first | (with_reducible first | exact HB.out | apply below_alloc | apply pw_below_drewN | apply below_drew1 | refine below_set ?_ GE502.out | refine below_set ?_ GE503.out) | exact HB.out)⟩
  · replace c5 := Bool.eq_false_iff.mpr c5
    subst c5
    have H1 : (some false) = some r := by rw [if_neg (show ¬ (false = true) by decide)] at H; exact H
    clear H
    have H := H1
    clear H1
    obtain rfl := Option.some.inj H
    go_enter Try.func51, Try.ntmps51
    go_wp2_with (first | ((with_reducible refine gate_dst (N := 4) rfl ?_); refine box_event ?hg (N := 4) ?hd (cs := #[.bool a1_0, .slice A1_1 l1_1.length c1_1, .slice A1_2 l1_2.length c1_2]) (t := 52) ?hr ?_; (case hd => rfl); (case hg => rfl); (case hr => first | (go_simp; done) | (go_simp; rfl)); intro gb502 hg w16 hbox hb; have n0_ := Aside0.mk (below_step (by repeat (first | (with_reducible first | exact HB.out | apply below_alloc | apply pw_below_drewN | apply below_drew1) | exact HB.out)) hb); have n1_ := Aside0.mk (hbox); have n2_ := Aside0.mk ((by rw [hg]; exact (below_size (by repeat (first | (with_reducible first | exact HB.out | apply below_alloc | apply pw_below_drewN | apply below_drew1) | exact HB.out))) : w.heap.size ≤ gb502)); have n3_ := Aside0.mk ((by rw [hg]; exact (below_size (by repeat (first | (with_reducible first | exact HB.out | apply below_alloc | apply pw_below_drewN | apply below_drew1) | exact HB.out))) : w.heap.size ≤ gb502)); clear HB; have HB := n0_; have BK502 := n1_; have GW502 := n2_; have GE502 := n3_; clear n0_ n1_ n2_ n3_; clear hb hbox hg) | ((with_reducible refine gate_dst (N := 5) rfl ?_); refine box_event ?hg (N := 5) ?hd (cs := #[.bool a2_0, .slice A2_1 l2_1.length c2_1, .slice A2_2 l2_2.length c2_2]) (t := 52) ?hr ?_; (case hd => rfl); (case hg => rfl); (case hr => first | (go_simp; done) | (go_simp; rfl)); intro gb503 hg w17 hbox hb; have n0_ := Aside0.mk (blk_below (g := gb502) (o := .cells #[.bool a1_0, .slice A1_1 l1_1.length c1_1, .slice A1_2 l1_2.length c1_2] 52 (0, 0)) (by (with_reducible repeat (first | refine blk_drewN ?_ _ | refine blk_drew ?_ | refine blk_alloc ?_ _)); exact BK502.out) hb); have n1_ := Aside0.mk (below_step (by repeat (first | (with_reducible first | exact HB.out | apply below_alloc | apply pw_below_drewN | apply below_drew1 | refine below_set ?_ GE502.out) | exact HB.out)) hb); have n2_ := Aside0.mk (hbox); have n3_ := Aside0.mk ((by rw [hg]; exact (below_size (by repeat (first | (with_reducible first | exact HB.out | apply below_alloc | apply pw_below_drewN | apply below_drew1 | refine below_set ?_ GE502.out) | exact HB.out))) : w.heap.size ≤ gb503)); have n4_ := Aside0.mk ((by rw [hg]; exact (below_size (by repeat (first | (with_reducible first | exact HB.out | apply below_alloc | apply pw_below_drewN | apply below_drew1 | refine below_set ?_ GE502.out) | exact HB.out))) : w.heap.size ≤ gb503)); have n5_ := Aside0.mk ((by rw [hg]; exact Nat.ne_of_lt (blk_lt (g := gb502) (o := .cells #[.bool a1_0, .slice A1_1 l1_1.length c1_1, .slice A1_2 l1_2.length c1_2] 52 (0, 0)) (by (with_reducible repeat (first | refine blk_drewN ?_ _ | refine blk_drew ?_ | refine blk_alloc ?_ _)); exact BK502.out)) : gb502 ≠ gb503)); have n6_ := Aside0.mk ((by rw [hg]; exact Nat.ne_of_gt (blk_lt (g := gb502) (o := .cells #[.bool a1_0, .slice A1_1 l1_1.length c1_1, .slice A1_2 l1_2.length c1_2] 52 (0, 0)) (by (with_reducible repeat (first | refine blk_drewN ?_ _ | refine blk_drew ?_ | refine blk_alloc ?_ _)); exact BK502.out)) : gb503 ≠ gb502)); clear BK502; clear HB; have BK502 := n0_; have HB := n1_; have BK503 := n2_; have GW503 := n3_; have GE503 := n4_; have NB502_503 := n5_; have NB503_502 := n6_; clear n0_ n1_ n2_ n3_ n4_ n5_ n6_; clear hb hbox hg; have hnb18 := NB502_503.out; have hnc18 := NB503_502.out; have hcz19_0 : w17.cell? ⟨gb502, 0, none⟩ = some (.bool a1_0) := (blk_cell BK502.out 0).trans rfl; have hcz19_1 : w17.cell? ⟨gb502, 1, none⟩ = some (.slice A1_1 l1_1.length c1_1) := (blk_cell BK502.out 1).trans rfl; have hcz19_2 : w17.cell? ⟨gb502, 2, none⟩ = some (.slice A1_2 l1_2.length c1_2) := (blk_cell BK502.out 2).trans rfl; have hfz19_0 := blk_frozen BK502.out 0; have hfz19_1 := blk_frozen BK502.out 1; have hfz19_2 := blk_frozen BK502.out 2; have hcz20_0 : w17.cell? ⟨gb503, 0, none⟩ = some (.bool a2_0) := (blk_cell BK503.out 0).trans rfl; have hcz20_1 : w17.cell? ⟨gb503, 1, none⟩ = some (.slice A2_1 l2_1.length c2_1) := (blk_cell BK503.out 1).trans rfl; have hcz20_2 : w17.cell? ⟨gb503, 2, none⟩ = some (.slice A2_2 l2_2.length c2_2) := (blk_cell BK503.out 2).trans rfl; have hfz20_0 := blk_frozen BK503.out 0; have hfz20_1 := blk_frozen BK503.out 1; have hfz20_2 := blk_frozen BK503.out 2) | ((with_reducible refine gate_callee (f := 83) rfl ?_); refine goesL_ (some 10) rfl rfl Try.func83 (by kernel_rfl) rfl #[.slice A0 l0.length c0, .agg #[.bool a1_0, .slice A1_1 l1_1.length c1_1, .slice A1_2 l1_2.length c1_2], .agg #[.bool a2_0, .slice A2_1 l2_1.length c2_1, .slice A2_2 l2_2.length c2_2]] rfl (by (try simp only [List.map_toArray, List.map_cons, List.map_nil]); first | done | rfl | (simp only [List.length_drop, List.length_take]; rfl)) ?_; (with_reducible refine (spec_l11Fits.calls k _ _ l0 a1_0 _ _ l1_1 _ _ l1_2 a2_0 _ _ l2_1 _ _ l2_2 false _ ?side1 ?side2 ?side3 ?side4 ?side5 ?side6 ?side7 ?side8 ?side9 ?side10 A4.out).mono ?_); (case side1 => repeat (first | exact (Kd.C_below HR0.out HB.out) | (with_reducible refine Kd.C_alloc ?_ _) | (with_reducible refine Kd.C_drewN ?_ _) | (with_reducible refine Kd.C_drew ?_))); (case side2 => exact HC0.out); (case side3 => repeat (first | exact (Kd.C_below HR1_1.out HB.out) | (with_reducible refine Kd.C_alloc ?_ _) | (with_reducible refine Kd.C_drewN ?_ _) | (with_reducible refine Kd.C_drew ?_))); (case side4 => exact HC1_1.out); (case side5 => repeat (first | exact (Kd.C_below HR1_2.out HB.out) | (with_reducible refine Kd.C_alloc ?_ _) | (with_reducible refine Kd.C_drewN ?_ _) | (with_reducible refine Kd.C_drew ?_))); (case side6 => exact HC1_2.out); (case side7 => repeat (first | exact (Kd.C_below HR2_1.out HB.out) | (with_reducible refine Kd.C_alloc ?_ _) | (with_reducible refine Kd.C_drewN ?_ _) | (with_reducible refine Kd.C_drew ?_))); (case side8 => exact HC2_1.out); (case side9 => repeat (first | exact (Kd.C_below HR2_2.out HB.out) | (with_reducible refine Kd.C_alloc ?_ _) | (with_reducible refine Kd.C_drewN ?_ _) | (with_reducible refine Kd.C_drew ?_))); (case side10 => exact HC2_2.out); rintro e w21 ⟨rfl, hb⟩; refine ⟨_, rfl, ?_⟩; have n0_ := Aside0.mk (blk_below (g := gb502) (o := .cells #[.bool a1_0, .slice A1_1 l1_1.length c1_1, .slice A1_2 l1_2.length c1_2] 52 (0, 0)) (by (with_reducible repeat (first | refine blk_drewN ?_ _ | refine blk_drew ?_ | refine blk_alloc ?_ _)); exact BK502.out) hb); have n1_ := Aside0.mk (blk_below (g := gb503) (o := .cells #[.bool a2_0, .slice A2_1 l2_1.length c2_1, .slice A2_2 l2_2.length c2_2] 52 (0, 0)) (by (with_reducible repeat (first | refine blk_drewN ?_ _ | refine blk_drew ?_ | refine blk_alloc ?_ _)); exact BK503.out) hb); have n2_ := Aside0.mk (below_step (by repeat (first | (with_reducible first | exact HB.out | apply below_alloc | apply pw_below_drewN | apply below_drew1 | refine below_set ?_ GE502.out | refine below_set ?_ GE503.out) | exact HB.out)) hb); clear BK502; clear BK503; clear HB; have BK502 := n0_; have BK503 := n1_; have HB := n2_; clear n0_ n1_ n2_; (try clear hb); (try clear hb2); (try clear hk); (try clear hi)))
    go_ret
    exact ⟨by first | rfl | (simp [errW_none, errW_some] <;> rfl) | (simp [*, errW_none, errW_some] <;> rfl), by repeat (first | (with_reducible first | exact HB.out | apply below_alloc | apply pw_below_drewN | apply below_drew1 | refine below_set ?_ GE502.out | refine below_set ?_ GE503.out) | exact HB.out)⟩

end Go.Proofs.Ytgmjolngnhdafaa.P

end
section
namespace Go.Proofs.Ytgmjolngnhdafaa.P
open Go Go.RowKit Go.Proofs.YtgmjolngnhdafaaW.PrintWords
set_option linter.unusedVariables false
set_option linter.unusedSimpArgs false
theorem kindW_nil : kindW (-1) = .nilIface := rfl
theorem kindW_0 : kindW 0 = .iface 89 (.agg #[]) := rfl
theorem kindW_1 : kindW 1 = .iface 84 (.agg #[]) := rfl
theorem kindW_2 : kindW 2 = .iface 90 (.agg #[]) := rfl
theorem kindW_3 : kindW 3 = .iface 86 (.agg #[.bool false]) := rfl
theorem kindW_4 : kindW 4 = .iface 86 (.agg #[.bool true]) := rfl
theorem kindW_8 {r : Int} (h : 8 ≤ r) : kindW r = .iface 88 (.agg #[.int .i64 (r - 8)]) := by
  unfold kindW
  rw [if_neg (by omega), if_neg (by omega), if_neg (by omega), if_neg (by omega), if_neg (by omega), if_neg (by omega)]
set_option maxHeartbeats 2000000 in
set_option maxRecDepth 100000 in
theorem impl_kindOf.calls' (a0 a1 r : Int) (w : World) (h : impl_kindOf.f a0 a1 = some r) :
    Calls Try.prog 62 #[.int .i64 a0, .int .i64 a1] w fun e w' => e = .returned (kindW r) ∧ w = w' := by
  unfold impl_kindOf.f at h
  split at h
  · rename_i hb
    obtain ⟨h0, h1, h2, h3⟩ := hb
    by_cases c0 : a1 = 0
    · subst c0
      obtain rfl : 0 = r := by simpa using h
      go_enter Try.func62, Try.ntmps62
      go_wp2
      go_ret
      exact ⟨rfl, rfl⟩
    by_cases c1 : a1 = 1
    · subst c1
      obtain rfl : 1 = r := by simpa using h
      go_enter Try.func62, Try.ntmps62
      go_wp2
      go_ret
      exact ⟨rfl, rfl⟩
    by_cases c2 : a1 = 2
    · subst c2
      obtain rfl : 2 = r := by simpa using h
      go_enter Try.func62, Try.ntmps62
      go_wp2
      go_ret
      exact ⟨rfl, rfl⟩
    by_cases c3 : a1 = 3
    · subst c3
      obtain rfl : 3 = r := by simpa using h
      go_enter Try.func62, Try.ntmps62
      go_wp2
      go_ret
      exact ⟨rfl, rfl⟩
    by_cases c4 : a1 = 4
    · subst c4
      obtain rfl : 4 = r := by simpa using h
      go_enter Try.func62, Try.ntmps62
      go_wp2
      go_ret
      exact ⟨rfl, rfl⟩
    rw [if_neg c0, if_neg c1, if_neg c2, if_neg c3, if_neg c4] at h
    have b0 : (a1 == 0) = false := by simpa using c0
    have b1 : (a1 == 1) = false := by simpa using c1
    have b2 : (a1 == 2) = false := by simpa using c2
    have b3 : (a1 == 3) = false := by simpa using c3
    have b4 : (a1 == 4) = false := by simpa using c4
    clear c0 c1 c2 c3 c4
    by_cases c5 : 8 ≤ a1
    · by_cases c6 : a1 < 8 + a0
      · rw [if_pos ⟨c5, c6⟩] at h
        obtain rfl := Option.some.inj h
        have H8 := Aside0.mk (kindW_8 c5)
        clear h
        go_enter Try.func62, Try.ntmps62
        go_wp2
        go_ret
        exact ⟨by rw [H8.out]; rfl, rfl⟩
      · rw [if_neg (by omega)] at h
        obtain rfl := Option.some.inj h
        go_enter Try.func62, Try.ntmps62
        go_wp2
        go_ret
        exact ⟨rfl, rfl⟩
    · rw [if_neg (by omega)] at h
      obtain rfl := Option.some.inj h
      go_enter Try.func62, Try.ntmps62
      go_wp2
      go_ret
      exact ⟨rfl, rfl⟩
  · cases h
theorem impl_kindOf.calls (a0 a1 r : Int) (w : World) (h : impl_kindOf.f a0 a1 = some r) :
    Calls Try.prog 62 #[.int .i64 a0, .int .i64 a1] w fun e w' => e = .returned (kindW r) ∧ Drawn0 w w' :=
  (impl_kindOf.calls' a0 a1 r w h).mono fun e w' ⟨he, hw⟩ => ⟨he, hw ▸ Drawn0.refl w⟩
/-- What kindOf tells is a type's number, or -1. -/
theorem kindOf_cases {c t r : Int} (h : impl_kindOf.f c t = some r) : r = -1 ∨ r = 0 ∨ r = 1 ∨ r = 2 ∨ r = 3 ∨ r = 4 ∨ (8 ≤ r ∧ r < 8 + c) := by
  unfold impl_kindOf.f at h
  split at h
  · repeat' split at h
    all_goals (have := Option.some.inj h; omega)
  · cases h
theorem kindEql (r : Int) (W : World) : (binOp .eql 69 (kindW r) .nilIface).run Try.prog W = .ok (.bool (r == -1)) W := by
  by_cases h : r = -1
  · subst h; rfl
  · have e : (r == -1) = false := by simpa using h
    rw [e]
    unfold kindW
    rw [if_neg h]
    repeat' split
    all_goals rfl
theorem kindNeq (r : Int) (W : World) : (binOp .neq 69 (kindW r) .nilIface).run Try.prog W = .ok (.bool (r != -1)) W := by
  by_cases h : r = -1
  · subst h; rfl
  · have e : (r != -1) = true := by simpa using h
    rw [e]
    unfold kindW
    rw [if_neg h]
    repeat' split
    all_goals rfl
theorem kindIface {r : Int} (h : r ≠ -1) : ∃ u x, kindW r = .iface u x := by
  unfold kindW
  rw [if_neg h]
  repeat' split
  all_goals exact ⟨_, _, rfl⟩
theorem guardNilE (r : Int) (t : TypeId) (o : Operand) (W : World) : (eqGuard .eql t o (.const .nilIface) (kindW r) .nilIface).run Try.prog W = .ok () W := by
  by_cases h : r = -1
  · subst h
    cases o <;> rfl
  · obtain ⟨u, x, e⟩ := kindIface h
    rw [e]; rfl
theorem guardNilN (r : Int) (t : TypeId) (o : Operand) (W : World) : (eqGuard .neq t o (.const .nilIface) (kindW r) .nilIface).run Try.prog W = .ok () W := by
  by_cases h : r = -1
  · subst h
    cases o <;> rfl
  · obtain ⟨u, x, e⟩ := kindIface h
    rw [e]; rfl
/-- A number of a kind, or -1. -/
def KindNo (r : Int) : Prop := r = -1 ∨ r = 0 ∨ r = 1 ∨ r = 2 ∨ r = 3 ∨ r = 4 ∨ 8 ≤ r
theorem assertInt {r : Int} (h : KindNo r) (W : World) : (Instr.typeAssert (kindW r) 69 84 true).run Try.prog W = .ok (.tuple #[.agg #[], .bool (r == 1)]) W := by
  rcases h with rfl | rfl | rfl | rfl | rfl | rfl | h
  all_goals try rfl
  rw [kindW_8 h, show (r == 1) = false by simp; omega]; rfl
theorem assertNull {r : Int} (h : KindNo r) (W : World) : (Instr.typeAssert (kindW r) 69 90 true).run Try.prog W = .ok (.tuple #[.agg #[], .bool (r == 2)]) W := by
  rcases h with rfl | rfl | rfl | rfl | rfl | rfl | h
  all_goals try rfl
  rw [kindW_8 h, show (r == 2) = false by simp; omega]; rfl
theorem assertArray {r : Int} (h : KindNo r) (W : World) : (Instr.typeAssert (kindW r) 69 86 true).run Try.prog W = .ok (.tuple #[.agg #[.bool (r == 4)], .bool (r == 3 || r == 4)]) W := by
  rcases h with rfl | rfl | rfl | rfl | rfl | rfl | h
  all_goals try rfl
  rw [kindW_8 h, show (r == 3) = false by simp; omega, show (r == 4) = false by simp; omega]; rfl
theorem assertClass {r : Int} (h : KindNo r) (W : World) : (Instr.typeAssert (kindW r) 69 88 true).run Try.prog W = .ok (.tuple #[.agg #[.int .i64 (if 8 ≤ r then r - 8 else 0)], .bool (decide (8 ≤ r))]) W := by
  rcases h with rfl | rfl | rfl | rfl | rfl | rfl | h
  all_goals try rfl
  rw [kindW_8 h, if_pos h, decide_eq_true h]; rfl
set_option maxHeartbeats 2000000 in
set_option maxRecDepth 100000 in
theorem impl_fieldType.calls (a0 a1 : Int) (r : Bool) (w : World) (h : impl_fieldType.f a0 a1 = some r) :
    Calls Try.prog 59 #[.int .i64 a0, .int .i64 a1] w fun e w' => e = .returned (.bool r) ∧ Drawn0 w w' := by
  unfold impl_fieldType.f at h
  obtain ⟨q, hq, hr⟩ := Option.bind_eq_some_iff.1 h
  obtain rfl := Option.some.inj hr
  clear h hr
  have hc : KindNo q := by have := kindOf_cases hq; unfold KindNo; omega
  have A := Aside0.mk hq
  clear hq
  have s1 := assertInt hc
  have s2 := assertArray hc
  have s3 := assertClass hc
  have b : (q == 1 || (q == 3 || q == 4) || decide (8 ≤ q)) = decide (q = 1 ∨ q = 3 ∨ q = 4 ∨ 8 ≤ q) := by
    rw [Bool.eq_iff_iff]; simp; omega
  have B := Aside0.mk b
  clear b hc
  rw [← B.out]
  clear B
  by_cases h1 : q = 1
  · subst h1
    go_enter Try.func59, Try.ntmps59
    go_wp2_with (go_at_call 62; refine (impl_kindOf.calls' _ _ _ _ A.out).mono ?_; rintro e w' ⟨rfl, rfl⟩)
    go_ret
    exact ⟨rfl, Drawn0.refl _⟩
  · have b1 : (q == 1) = false := by simpa using h1
    by_cases h2 : (q == 3 || q == 4) = true
    · go_enter Try.func59, Try.ntmps59
      go_wp2_with (go_at_call 62; refine (impl_kindOf.calls' _ _ _ _ A.out).mono ?_; rintro e w' ⟨rfl, rfl⟩)
      all_goals go_ret
      all_goals exact ⟨by simp [h2], Drawn0.refl _⟩
    · have b2 : (q == 3 || q == 4) = false := by simpa using h2
      by_cases h3 : 8 ≤ q
      · have b3 : decide (8 ≤ q) = true := decide_eq_true h3
        go_enter Try.func59, Try.ntmps59
        go_wp2_with (go_at_call 62; refine (impl_kindOf.calls' _ _ _ _ A.out).mono ?_; rintro e w' ⟨rfl, rfl⟩)
        all_goals go_ret
        all_goals exact ⟨by simp [*], Drawn0.refl _⟩
      · have b3 : decide (8 ≤ q) = false := decide_eq_false h3
        go_enter Try.func59, Try.ntmps59
        go_wp2_with (go_at_call 62; refine (impl_kindOf.calls' _ _ _ _ A.out).mono ?_; rintro e w' ⟨rfl, rfl⟩)
        all_goals go_ret
        all_goals exact ⟨by simp [*], Drawn0.refl _⟩
end Go.Proofs.Ytgmjolngnhdafaa.P

end
