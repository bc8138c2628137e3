/- A part of the claim FnExactUnitOk: texts of this session and texts that its program printed out of the translation, joined. -/
import Derived.Test.YtedodaifpekahaaCFnExactUnitOk21
import Derived.Test.YtedodaifpekahaaCFnExactUnitOk24
import Derived.Test.YtedodaifpekahaaCFnExactUnitOk26
import Derived.Test.YtedodaifpekahaaCFnExactUnitOk0
import Derived.Test.YtedodaifpekahaaCFnExactUnitOk1
import Derived.Test.YtedodaifpekahaaCFnExactUnitOk2
import Derived.Test.YtedodaifpekahaaCFnExactUnitOk3
import Derived.Test.YtedodaifpekahaaCFnExactUnitOk4
import Derived.Test.YtedodaifpekahaaCFnExactUnitOk5
import Derived.Test.YtedodaifpekahaaCFnExactUnitOk6
import Derived.Test.YtedodaifpekahaaCFnExactUnitOk7
import Derived.Test.YtedodaifpekahaaCFnExactUnitOk8
import Derived.Test.YtedodaifpekahaaCFnExactUnitOk9
import Derived.Test.YtedodaifpekahaaCFnExactUnitOk10
import Derived.Test.YtedodaifpekahaaCFnExactUnitOk11
import Derived.Test.YtedodaifpekahaaCFnExactUnitOk12
import Derived.Test.YtedodaifpekahaaCFnExactUnitOk13
import Derived.Test.YtedodaifpekahaaCFnExactUnitOk14
import Derived.Test.YtedodaifpekahaaCFnExactUnitOk15
import Derived.Test.YtedodaifpekahaaCFnExactUnitOk16
import Derived.Test.YtedodaifpekahaaCFnExactUnitOk17
import Derived.Test.YtedodaifpekahaaCFnExactUnitOk18
import Derived.Test.YtedodaifpekahaaCFnExactUnitOk19
import Derived.Test.YtedodaifpekahaaCFnExactUnitOk20
import Derived.Test.YtedodaifpekahaaCFnExactUnitOk22
import Derived.Test.YtedodaifpekahaaCFnExactUnitOk23
import Derived.Test.YtedodaifpekahaaCFnExactUnitOk25
section

namespace Go.Proofs.Ytedodaifpekahaa.P
open Go.RowKit Go.Proofs.YtedodaifpekahaaW.PrintWords Go.Proofs.YtedodaifpekahaaW.PrintLast Go.Proofs.YtedodaifpekahaaW.PrintMore
attribute [local go_sem] max2_int min2_int max_two min_two max_three min_three max_four min_four
set_option linter.unusedVariables false
set_option linter.unusedSimpArgs false
def spec_UnitOk.T8 : Bool × List (List Nat × List Nat) := (true, [([], []), ([], []), ([1], [1]), ([], []), ([2, 3], [2, 3]), ([4], [4]), ([0, 5], [0, 5]), ([6], [6])])
def spec_UnitOk.B8 : List Nat := [0, 0, 2, 0, 14, 30, 63, 127]
theorem spec_UnitOk.tab8 : rtab .any (opsOf Try.f6 8) = spec_UnitOk.T8 := by kernel_rfl
theorem spec_UnitOk.bits8 : waitsOk spec_UnitOk.T8.2 spec_UnitOk.B8 = true := by kernel_rfl
set_option maxHeartbeats 8000000 in
set_option maxRecDepth 100000 in
theorem spec_UnitOk.calls (k : Nat) (A0_0 : Option Addr) (c0_0 : Nat) (l0_0 : List (S76)) (A0_1 : Option Addr) (c0_1 : Nat) (l0_1 : List (S46)) (r : Bool) (w : World) (hr0_0 : Kd.C k76 w A0_0 l0_0.length l0_0) (hc0_0 : l0_0.length ≤ c0_0) (hr0_1 : Kd.C k46 w A0_1 l0_1.length l0_1) (hc0_1 : l0_1.length ≤ c0_1) (h : spec_UnitOk.f k l0_0 l0_1 = some r) :
    Calls Try.prog 6 #[.agg #[.slice A0_0 l0_0.length c0_0, .slice A0_1 l0_1.length c0_1]] w fun e w' => e = .returned (.bool r) ∧ Below w.heap.size w w' := by
  have hu31 := Try.underlying31
  have hu46 := Try.underlying46
  have HR0_0 := Aside0.mk hr0_0
  have HC0_0 := Aside0.mk hc0_0
  clear hr0_0 hc0_0
  have HR0_1 := Aside0.mk hr0_1
  have HC0_1 := Aside0.mk hc0_1
  clear hr0_1 hc0_1
  have HB := Aside0.mk (Below.refl w.heap.size w)
  have H : ((spec_ClassesOk.f k l0_0).bind fun t205 => (if t205 = true then ((spec_l6In.f (l0_1.length : Int) 1 4).bind fun t206 => (spec_UnitOk.j0 k (!t206) l0_0 l0_1)) else (spec_UnitOk.j0 k true l0_0 l0_1))) = some r := h
  clear h
  have HC2 := Aside0.mk H
  clear H
  go_enter Try.func6, Try.ntmps6
  go_upto_region 1 with (first | ((with_reducible refine gate_dst (N := 1) rfl ?_); (try (refine gate_guard (by rfl) ?_; dsimp only)); refine box_event ?hg (N := 1) ?hd (cs := #[.slice A0_0 l0_0.length c0_0, .slice A0_1 l0_1.length c0_1]) (t := 31) ?hr ?_; (case hd => rfl); (case hg => rfl); (case hr => first | (go_simp; done) | (go_simp; rfl)); intro gb204 hg w3 hbox hb; have n0_ := Aside0.mk (below_step (by repeat (first | (with_reducible first | exact HB.out | apply below_alloc | apply pw_below_drewN | apply below_drew1) | exact HB.out)) hb); have n1_ := Aside0.mk (hbox); have n2_ := Aside0.mk ((by rw [hg]; exact (below_size (by repeat (first | (with_reducible first | exact HB.out | apply below_alloc | apply pw_below_drewN | apply below_drew1) | exact HB.out))) : w.heap.size ≤ gb204)); have n3_ := Aside0.mk ((by rw [hg]; exact (below_size (by repeat (first | (with_reducible first | exact HB.out | apply below_alloc | apply pw_below_drewN | apply below_drew1) | exact HB.out))) : w.heap.size ≤ gb204)); clear HB; have HB := n0_; have BK204 := n1_; have GW204 := n2_; have GE204 := n3_; clear n0_ n1_ n2_ n3_; clear hb hbox hg))
  (try simp only [Act.put, List.setIfInBounds_toArray, List.set_cons_zero, List.set_cons_succ])
  go_cut [14] (fun v14 wc => ∃ (kq : Nat) (x14_1 : Bool), v14 = .bool x14_1 ∧ Aside0 (spec_UnitOk.j0 kq x14_1 l0_0 l0_1 = some r) ∧ Aside0 (kq ≤ k) ∧ Aside0 (wc.heap[gb204]? = some (.cells #[(.slice A0_0 l0_0.length c0_0), (.slice A0_1 l0_1.length c0_1)] 31 (0, 0))) ∧ Aside0 (Below w.heap.size w wc))
  case first =>
    have H := HC2.out
    clear HC2
    replace H := Option.bind_eq_some_iff.mp H
    obtain ⟨t205, A40, H⟩ := H
    replace H : (if t205 = true then ((spec_l6In.f (l0_1.length : Int) 1 4).bind fun t206 => (spec_UnitOk.j0 k (!t206) l0_0 l0_1)) else (spec_UnitOk.j0 k true l0_0 l0_1)) = some r := H
    have A4 := Aside0.mk A40
    clear A40
    by_cases c5 : t205 = true
    · subst c5
      have H1 : ((spec_l6In.f (l0_1.length : Int) 1 4).bind fun t206 => (spec_UnitOk.j0 k (!t206) l0_0 l0_1)) = some r := by rw [if_pos rfl] at H; exact H
      clear H
      have H := H1
      clear H1
      replace H := Option.bind_eq_some_iff.mp H
      obtain ⟨t206, A60, H⟩ := H
      replace H : (spec_UnitOk.j0 k (!t206) l0_0 l0_1) = some r := H
      have A6 := Aside0.mk A60
      clear A60
      have H' := Aside0.mk H
      clear H
      have hcz7_0 : w3.cell? ⟨gb204, 0, none⟩ = some (.slice A0_0 l0_0.length c0_0) := (blk_cell BK204.out 0).trans rfl
      have hcz7_1 : w3.cell? ⟨gb204, 1, none⟩ = some (.slice A0_1 l0_1.length c0_1) := (blk_cell BK204.out 1).trans rfl
      have hfz7_0 := blk_frozen BK204.out 0
      have hfz7_1 := blk_frozen BK204.out 1
      go_wp2_with (first | ((with_reducible refine gate_callee (f := 14) rfl ?_); refine goesL_ (some 6) rfl rfl Try.func14 (by kernel_rfl) rfl #[.slice A0_0 l0_0.length c0_0] rfl (by (try simp only [List.map_toArray, List.map_cons, List.map_nil]); first | done | rfl | (simp only [List.length_drop, List.length_take]; rfl)) ?_; (with_reducible refine (spec_ClassesOk.calls k _ _ l0_0 true _ ?side1 ?side2 A4.out).mono ?_); (case side1 => repeat (first | exact (Kd.C_below HR0_0.out HB.out) | (with_reducible refine Kd.C_alloc ?_ _) | (with_reducible refine Kd.C_drewN ?_ _) | (with_reducible refine Kd.C_drew ?_))); (case side2 => exact HC0_0.out); rintro e w8 ⟨rfl, hb⟩; refine ⟨_, rfl, ?_⟩; have n0_ := Aside0.mk (blk_below (g := gb204) (o := .cells #[.slice A0_0 l0_0.length c0_0, .slice A0_1 l0_1.length c0_1] 31 (0, 0)) (by (with_reducible repeat (first | refine blk_drewN ?_ _ | refine blk_drew ?_ | refine blk_alloc ?_ _)); exact BK204.out) hb); have n1_ := Aside0.mk (below_step (by repeat (first | (with_reducible first | exact HB.out | apply below_alloc | apply pw_below_drewN | apply below_drew1 | refine below_set ?_ GE204.out) | exact HB.out)) hb); clear BK204; clear HB; have BK204 := n0_; have HB := n1_; clear n0_ n1_; (try clear hb); (try clear hb2); (try clear hk); (try clear hi); have hcz9_0 : w8.cell? ⟨gb204, 0, none⟩ = some (.slice A0_0 l0_0.length c0_0) := (blk_cell BK204.out 0).trans rfl; have hcz9_1 : w8.cell? ⟨gb204, 1, none⟩ = some (.slice A0_1 l0_1.length c0_1) := (blk_cell BK204.out 1).trans rfl; have hfz9_0 := blk_frozen BK204.out 0; have hfz9_1 := blk_frozen BK204.out 1) | (go_at_call 15; (with_reducible refine (spec_l6In.calls (l0_1.length : Int) 1 4 t206 _ A6.out).mono ?_); rintro e w' ⟨rfl, ⟨nd, rfl⟩⟩))
      go_meet
      case rel => exact ⟨_, (!t206), (by first | rfl | (simp; done) | (simp [*]; done)), H', ⟨by first | omega | exact Nat.le_refl _⟩, ⟨by (with_reducible repeat (first | refine blk_drewN ?_ _ | refine blk_drew ?_ | refine blk_alloc ?_ _)); exact BK204.out⟩, ⟨by repeat (first | (with_reducible first | exact HB.out | apply below_alloc | apply pw_below_drewN | apply below_drew1 | refine below_set ?_ GE204.out) | exact HB.out)⟩⟩
    · replace c5 := Bool.eq_false_iff.mpr c5
      subst c5
      have H1 : (spec_UnitOk.j0 k true l0_0 l0_1) = some r := by rw [if_neg (show ¬ (false = true) by decide)] at H; exact H
      clear H
      have H := H1
      clear H1
      have H' := Aside0.mk H
      clear H
      have hcz10_0 : w3.cell? ⟨gb204, 0, none⟩ = some (.slice A0_0 l0_0.length c0_0) := (blk_cell BK204.out 0).trans rfl
      have hcz10_1 : w3.cell? ⟨gb204, 1, none⟩ = some (.slice A0_1 l0_1.length c0_1) := (blk_cell BK204.out 1).trans rfl
      have hfz10_0 := blk_frozen BK204.out 0
      have hfz10_1 := blk_frozen BK204.out 1
      go_wp2_with (first | ((with_reducible refine gate_callee (f := 14) rfl ?_); refine goesL_ (some 6) rfl rfl Try.func14 (by kernel_rfl) rfl #[.slice A0_0 l0_0.length c0_0] rfl (by (try simp only [List.map_toArray, List.map_cons, List.map_nil]); first | done | rfl | (simp only [List.length_drop, List.length_take]; rfl)) ?_; (with_reducible refine (spec_ClassesOk.calls k _ _ l0_0 false _ ?side1 ?side2 A4.out).mono ?_); (case side1 => repeat (first | exact (Kd.C_below HR0_0.out HB.out) | (with_reducible refine Kd.C_alloc ?_ _) | (with_reducible refine Kd.C_drewN ?_ _) | (with_reducible refine Kd.C_drew ?_))); (case side2 => exact HC0_0.out); rintro e w11 ⟨rfl, hb⟩; refine ⟨_, rfl, ?_⟩; have n0_ := Aside0.mk (blk_below (g := gb204) (o := .cells #[.slice A0_0 l0_0.length c0_0, .slice A0_1 l0_1.length c0_1] 31 (0, 0)) (by (with_reducible repeat (first | refine blk_drewN ?_ _ | refine blk_drew ?_ | refine blk_alloc ?_ _)); exact BK204.out) hb); have n1_ := Aside0.mk (below_step (by repeat (first | (with_reducible first | exact HB.out | apply below_alloc | apply pw_below_drewN | apply below_drew1 | refine below_set ?_ GE204.out) | exact HB.out)) hb); clear BK204; clear HB; have BK204 := n0_; have HB := n1_; clear n0_ n1_; (try clear hb); (try clear hb2); (try clear hk); (try clear hi)))
      go_meet
      case rel => exact ⟨_, (true), (by first | rfl | (simp; done) | (simp [*]; done)), H', ⟨by first | omega | exact Nat.le_refl _⟩, ⟨by (with_reducible repeat (first | refine blk_drewN ?_ _ | refine blk_drew ?_ | refine blk_alloc ?_ _)); exact BK204.out⟩, ⟨by repeat (first | (with_reducible first | exact HB.out | apply below_alloc | apply pw_below_drewN | apply below_drew1 | refine below_set ?_ GE204.out) | exact HB.out)⟩⟩
  case rest =>
    clear HC2
    try clear c1
    try clear p2
    try clear c5
    try clear c6
    try clear hcz10_0
    try clear hcz10_1
    try clear hcz7_0
    try clear hcz7_1
    try clear hcz9_0
    try clear hcz9_1
    try clear hfz10_0
    try clear hfz10_1
    try clear hfz7_0
    try clear hfz7_1
    try clear hfz9_0
    try clear hfz9_1
    obtain ⟨kq, x14_1, rfl, HA, HJ1, BK204, HB⟩ := hcut
    cases kq with
    | zero => exact absurd HA.out (by simp [spec_UnitOk.j0])
    | succ kj1 =>
      have H := HA.out
      clear HA
      simp only [spec_UnitOk.j0] at H
      by_cases c12 : x14_1 = true
      · subst c12
        have H1 : (some false) = some r := by rw [if_pos rfl] at H; exact H
        clear H
        have H := H1
        clear H1
        obtain rfl := Option.some.inj H
        simp only [Option.some.injEq, Prod.mk.injEq] at H
        obtain ⟨rfl⟩ := H
        go_wp2
        go_ret
        exact ⟨by first | rfl | (simp [errW_none, errW_some] <;> rfl) | (simp [*, errW_none, errW_some] <;> rfl), by repeat (first | (with_reducible first | exact HB.out | apply below_alloc | apply pw_below_drewN | apply below_drew1 | refine below_set ?_ GE204.out) | exact HB.out)⟩
      · replace c12 := Bool.eq_false_iff.mpr c12
        subst c12
        have H1 : (if 0 < (l0_1.length : Int) then (if ((rd_T46 l0_1 0).f0) = (-1) then (if (((rd_T46 l0_1 0).f2).length : Int) > 0 then (spec_UnitOk.j1 kj1 true l0_0 l0_1) else (spec_UnitOk.j1 kj1 (((rd_T46 l0_1 0).f3) != 1) l0_0 l0_1)) else (spec_UnitOk.j1 kj1 true l0_0 l0_1)) else (none)) = some r := by rw [if_neg (show ¬ (false = true) by decide)] at H; exact H
        clear H
        have H := H1
        clear H1
        have HC13 := Aside0.mk H
        clear H
        go_upto_region 3 with (fail)
        go_cut [37] (fun v37 wc => ∃ (kq : Nat) (x37_12 : Bool), v37 = .bool x37_12 ∧ Aside0 (spec_UnitOk.j1 kq x37_12 l0_0 l0_1 = some r) ∧ Aside0 (kq ≤ kj1) ∧ Aside0 (wc.heap[gb204]? = some (.cells #[(.slice A0_0 l0_0.length c0_0), (.slice A0_1 l0_1.length c0_1)] 31 (0, 0))) ∧ Aside0 (Below w.heap.size w wc))
        case first =>
          have H := HC13.out
          clear HC13
          by_cases c14 : 0 < (l0_1.length : Int)
          · rw [if_pos c14] at H
            have c14b0 : decide (0 < (l0_1.length : Int)) = true := decide_eq_true c14
            have c14b1 : decide (0 < l0_1.length) = true := decide_eq_true (by omega)
            clear c14
            (first | rw [c14b0] | (simp only [i64_w, i32_w]; rw [c14b0]) | skip)
            by_cases c15 : ((rd_T46 l0_1 0).f0) = (-1)
            · rw [if_pos c15] at H
              have c15b0 : (((rd_T46 l0_1 0).f0) == (-1)) = true := beq_iff_eq.mpr c15
              have c15b1 : (((rd_T46 l0_1 0).f0) != (-1)) = false := bne_eq_false_iff_eq.mpr c15
              clear c15
              by_cases c16 : (((rd_T46 l0_1 0).f2).length : Int) > 0
              · rw [if_pos c16] at H
                have c16b0 : decide (0 < (((rd_T46 l0_1 0).f2).length : Int)) = true := decide_eq_true c16
                have c16b1 : decide (0 < ((rd_T46 l0_1 0).f2).length) = true := decide_eq_true (by omega)
                clear c16
                have H' := Aside0.mk H
                clear H
                have hcz17_0 : wc.cell? ⟨gb204, 0, none⟩ = some (.slice A0_0 l0_0.length c0_0) := (blk_cell BK204.out 0).trans rfl
                have hcz17_1 : wc.cell? ⟨gb204, 1, none⟩ = some (.slice A0_1 l0_1.length c0_1) := (blk_cell BK204.out 1).trans rfl
                have hfz17_0 := blk_frozen BK204.out 0
                have hfz17_1 := blk_frozen BK204.out 1
                have p207 : 0 ≤ (0 : Int) := (by omega)
                have q207 : 0 < (l0_1.length : Int) := of_decide_eq_true (by first | (with_reducible assumption) | assumption)
                obtain ⟨ad207, A207_2, c207_2, A207_5, c207_5, A207_6, c207_6, A207_7, c207_7, e207, hx207_0, hx207_1, hx207_2, hx207_3, hx207_4, hx207_5, hx207_6, hx207_7, hl207_2, hi207_2, hl207_5, hi207_5, hl207_6, hi207_6, hl207_7, hi207_7⟩ := at_T46 HR0_1.out 0 p207 q207
                cases e207
                have qi207 : (0 < l0_1.length) = True := eq_true (by omega)
                (try rw [show ((0 : Int)).toNat = 0 from rfl] at hx207_0)
                (try rw [show 0 * 8 = 0 from rfl] at hx207_0)
                (try rw [Addr.add_zero'] at hx207_0)
                (try rw [show ((0 : Int)).toNat = 0 from rfl] at hx207_1)
                (try rw [show 0 * 8 = 0 from rfl] at hx207_1)
                (try rw [Addr.add_zero'] at hx207_1)
                (try rw [show ((0 : Int)).toNat = 0 from rfl] at hx207_2)
                (try rw [show 0 * 8 = 0 from rfl] at hx207_2)
                (try rw [Addr.add_zero'] at hx207_2)
                (try rw [show ((0 : Int)).toNat = 0 from rfl] at hx207_3)
                (try rw [show 0 * 8 = 0 from rfl] at hx207_3)
                (try rw [Addr.add_zero'] at hx207_3)
                (try rw [show ((0 : Int)).toNat = 0 from rfl] at hx207_4)
                (try rw [show 0 * 8 = 0 from rfl] at hx207_4)
                (try rw [Addr.add_zero'] at hx207_4)
                (try rw [show ((0 : Int)).toNat = 0 from rfl] at hx207_5)
                (try rw [show 0 * 8 = 0 from rfl] at hx207_5)
                (try rw [Addr.add_zero'] at hx207_5)
                (try rw [show ((0 : Int)).toNat = 0 from rfl] at hx207_6)
                (try rw [show 0 * 8 = 0 from rfl] at hx207_6)
                (try rw [Addr.add_zero'] at hx207_6)
                (try rw [show ((0 : Int)).toNat = 0 from rfl] at hx207_7)
                (try rw [show 0 * 8 = 0 from rfl] at hx207_7)
                (try rw [Addr.add_zero'] at hx207_7)
                replace hx207_0 := (HB.out.cell (World.block_lt_of_cell? w _ hx207_0)).trans hx207_0
                replace hx207_1 := (HB.out.cell (World.block_lt_of_cell? w _ hx207_1)).trans hx207_1
                replace hx207_2 := (HB.out.cell (World.block_lt_of_cell? w _ hx207_2)).trans hx207_2
                replace hx207_3 := (HB.out.cell (World.block_lt_of_cell? w _ hx207_3)).trans hx207_3
                replace hx207_4 := (HB.out.cell (World.block_lt_of_cell? w _ hx207_4)).trans hx207_4
                replace hx207_5 := (HB.out.cell (World.block_lt_of_cell? w _ hx207_5)).trans hx207_5
                replace hx207_6 := (HB.out.cell (World.block_lt_of_cell? w _ hx207_6)).trans hx207_6
                replace hx207_7 := (HB.out.cell (World.block_lt_of_cell? w _ hx207_7)).trans hx207_7
                have HR207_2 := Aside0.mk hi207_2
                have HC207_2 := Aside0.mk hl207_2
                clear hi207_2 hl207_2
                have HR207_5 := Aside0.mk hi207_5
                have HC207_5 := Aside0.mk hl207_5
                clear hi207_5 hl207_5
                have HR207_6 := Aside0.mk hi207_6
                have HC207_6 := Aside0.mk hl207_6
                clear hi207_6 hl207_6
                have HR207_7 := Aside0.mk hi207_7
                have HC207_7 := Aside0.mk hl207_7
                clear hi207_7 hl207_7
                replace p207 := eq_true p207
                replace q207 := eq_true q207
                have p208 : 0 ≤ (0 : Int) := (by omega)
                have q208 : 0 < (l0_1.length : Int) := of_decide_eq_true (by first | (with_reducible assumption) | assumption)
                obtain ⟨ad208, A208_2, c208_2, A208_5, c208_5, A208_6, c208_6, A208_7, c208_7, e208, hx208_0, hx208_1, hx208_2, hx208_3, hx208_4, hx208_5, hx208_6, hx208_7, hl208_2, hi208_2, hl208_5, hi208_5, hl208_6, hi208_6, hl208_7, hi208_7⟩ := at_T46 HR0_1.out 0 p208 q208
                obtain rfl : ad207 = ad208 := (by injection e208)
                have qi208 : (0 < l0_1.length) = True := eq_true (by omega)
                (try rw [show ((0 : Int)).toNat = 0 from rfl] at hx208_0)
                (try rw [show 0 * 8 = 0 from rfl] at hx208_0)
                (try rw [Addr.add_zero'] at hx208_0)
                (try rw [show ((0 : Int)).toNat = 0 from rfl] at hx208_1)
                (try rw [show 0 * 8 = 0 from rfl] at hx208_1)
                (try rw [Addr.add_zero'] at hx208_1)
                (try rw [show ((0 : Int)).toNat = 0 from rfl] at hx208_2)
                (try rw [show 0 * 8 = 0 from rfl] at hx208_2)
                (try rw [Addr.add_zero'] at hx208_2)
                (try rw [show ((0 : Int)).toNat = 0 from rfl] at hx208_3)
                (try rw [show 0 * 8 = 0 from rfl] at hx208_3)
                (try rw [Addr.add_zero'] at hx208_3)
                (try rw [show ((0 : Int)).toNat = 0 from rfl] at hx208_4)
                (try rw [show 0 * 8 = 0 from rfl] at hx208_4)
                (try rw [Addr.add_zero'] at hx208_4)
                (try rw [show ((0 : Int)).toNat = 0 from rfl] at hx208_5)
                (try rw [show 0 * 8 = 0 from rfl] at hx208_5)
                (try rw [Addr.add_zero'] at hx208_5)
                (try rw [show ((0 : Int)).toNat = 0 from rfl] at hx208_6)
                (try rw [show 0 * 8 = 0 from rfl] at hx208_6)
                (try rw [Addr.add_zero'] at hx208_6)
                (try rw [show ((0 : Int)).toNat = 0 from rfl] at hx208_7)
                (try rw [show 0 * 8 = 0 from rfl] at hx208_7)
                (try rw [Addr.add_zero'] at hx208_7)
                replace hx208_0 := (HB.out.cell (World.block_lt_of_cell? w _ hx208_0)).trans hx208_0
                replace hx208_1 := (HB.out.cell (World.block_lt_of_cell? w _ hx208_1)).trans hx208_1
                replace hx208_2 := (HB.out.cell (World.block_lt_of_cell? w _ hx208_2)).trans hx208_2
                replace hx208_3 := (HB.out.cell (World.block_lt_of_cell? w _ hx208_3)).trans hx208_3
                replace hx208_4 := (HB.out.cell (World.block_lt_of_cell? w _ hx208_4)).trans hx208_4
                replace hx208_5 := (HB.out.cell (World.block_lt_of_cell? w _ hx208_5)).trans hx208_5
                replace hx208_6 := (HB.out.cell (World.block_lt_of_cell? w _ hx208_6)).trans hx208_6
                replace hx208_7 := (HB.out.cell (World.block_lt_of_cell? w _ hx208_7)).trans hx208_7
                have HR208_2 := Aside0.mk hi208_2
                have HC208_2 := Aside0.mk hl208_2
                clear hi208_2 hl208_2
                have HR208_5 := Aside0.mk hi208_5
                have HC208_5 := Aside0.mk hl208_5
                clear hi208_5 hl208_5
                have HR208_6 := Aside0.mk hi208_6
                have HC208_6 := Aside0.mk hl208_6
                clear hi208_6 hl208_6
                have HR208_7 := Aside0.mk hi208_7
                have HC208_7 := Aside0.mk hl208_7
                clear hi208_7 hl208_7
                replace p208 := eq_true p208
                replace q208 := eq_true q208
                have ea_ := Option.some.inj (hx207_2.symm.trans hx208_2)
                injection ea_ with ea_ en_ ec_
                subst ea_
                subst ec_
                clear en_
                have ea_ := Option.some.inj (hx207_5.symm.trans hx208_5)
                injection ea_ with ea_ en_ ec_
                subst ea_
                subst ec_
                clear en_
                have ea_ := Option.some.inj (hx207_6.symm.trans hx208_6)
                injection ea_ with ea_ en_ ec_
                subst ea_
                subst ec_
                clear en_
                have ea_ := Option.some.inj (hx207_7.symm.trans hx208_7)
                injection ea_ with ea_ en_ ec_
                subst ea_
                subst ec_
                clear en_
                go_wp2
                go_meet
                case rel => exact ⟨_, (true), (by first | rfl | (simp; done) | (simp [*]; done)), H', ⟨by have := HJ1.out; first | omega | exact Nat.le_refl _⟩, ⟨by (with_reducible repeat (first | refine blk_drewN ?_ _ | refine blk_drew ?_ | refine blk_alloc ?_ _)); exact BK204.out⟩, ⟨by repeat (first | (with_reducible first | exact HB.out | apply below_alloc | apply pw_below_drewN | apply below_drew1 | refine below_set ?_ GE204.out) | exact HB.out)⟩⟩
              · rw [if_neg c16] at H
                have c16b0 : decide (0 < (((rd_T46 l0_1 0).f2).length : Int)) = false := decide_eq_false c16
                have c16b1 : decide (0 < ((rd_T46 l0_1 0).f2).length) = false := decide_eq_false (by omega)
                clear c16
                have H' := Aside0.mk H
                clear H
                have hcz18_0 : wc.cell? ⟨gb204, 0, none⟩ = some (.slice A0_0 l0_0.length c0_0) := (blk_cell BK204.out 0).trans rfl
                have hcz18_1 : wc.cell? ⟨gb204, 1, none⟩ = some (.slice A0_1 l0_1.length c0_1) := (blk_cell BK204.out 1).trans rfl
                have hfz18_0 := blk_frozen BK204.out 0
                have hfz18_1 := blk_frozen BK204.out 1
                have p207 : 0 ≤ (0 : Int) := (by omega)
                have q207 : 0 < (l0_1.length : Int) := of_decide_eq_true (by first | (with_reducible assumption) | assumption)
                obtain ⟨ad207, A207_2, c207_2, A207_5, c207_5, A207_6, c207_6, A207_7, c207_7, e207, hx207_0, hx207_1, hx207_2, hx207_3, hx207_4, hx207_5, hx207_6, hx207_7, hl207_2, hi207_2, hl207_5, hi207_5, hl207_6, hi207_6, hl207_7, hi207_7⟩ := at_T46 HR0_1.out 0 p207 q207
                cases e207
                have qi207 : (0 < l0_1.length) = True := eq_true (by omega)
                (try rw [show ((0 : Int)).toNat = 0 from rfl] at hx207_0)
                (try rw [show 0 * 8 = 0 from rfl] at hx207_0)
                (try rw [Addr.add_zero'] at hx207_0)
                (try rw [show ((0 : Int)).toNat = 0 from rfl] at hx207_1)
                (try rw [show 0 * 8 = 0 from rfl] at hx207_1)
                (try rw [Addr.add_zero'] at hx207_1)
                (try rw [show ((0 : Int)).toNat = 0 from rfl] at hx207_2)
                (try rw [show 0 * 8 = 0 from rfl] at hx207_2)
                (try rw [Addr.add_zero'] at hx207_2)
                (try rw [show ((0 : Int)).toNat = 0 from rfl] at hx207_3)
                (try rw [show 0 * 8 = 0 from rfl] at hx207_3)
                (try rw [Addr.add_zero'] at hx207_3)
                (try rw [show ((0 : Int)).toNat = 0 from rfl] at hx207_4)
                (try rw [show 0 * 8 = 0 from rfl] at hx207_4)
                (try rw [Addr.add_zero'] at hx207_4)
                (try rw [show ((0 : Int)).toNat = 0 from rfl] at hx207_5)
                (try rw [show 0 * 8 = 0 from rfl] at hx207_5)
                (try rw [Addr.add_zero'] at hx207_5)
                (try rw [show ((0 : Int)).toNat = 0 from rfl] at hx207_6)
                (try rw [show 0 * 8 = 0 from rfl] at hx207_6)
                (try rw [Addr.add_zero'] at hx207_6)
                (try rw [show ((0 : Int)).toNat = 0 from rfl] at hx207_7)
                (try rw [show 0 * 8 = 0 from rfl] at hx207_7)
                (try rw [Addr.add_zero'] at hx207_7)
                replace hx207_0 := (HB.out.cell (World.block_lt_of_cell? w _ hx207_0)).trans hx207_0
                replace hx207_1 := (HB.out.cell (World.block_lt_of_cell? w _ hx207_1)).trans hx207_1
                replace hx207_2 := (HB.out.cell (World.block_lt_of_cell? w _ hx207_2)).trans hx207_2
                replace hx207_3 := (HB.out.cell (World.block_lt_of_cell? w _ hx207_3)).trans hx207_3
                replace hx207_4 := (HB.out.cell (World.block_lt_of_cell? w _ hx207_4)).trans hx207_4
                replace hx207_5 := (HB.out.cell (World.block_lt_of_cell? w _ hx207_5)).trans hx207_5
                replace hx207_6 := (HB.out.cell (World.block_lt_of_cell? w _ hx207_6)).trans hx207_6
                replace hx207_7 := (HB.out.cell (World.block_lt_of_cell? w _ hx207_7)).trans hx207_7
                have HR207_2 := Aside0.mk hi207_2
                have HC207_2 := Aside0.mk hl207_2
                clear hi207_2 hl207_2
                have HR207_5 := Aside0.mk hi207_5
                have HC207_5 := Aside0.mk hl207_5
                clear hi207_5 hl207_5
                have HR207_6 := Aside0.mk hi207_6
                have HC207_6 := Aside0.mk hl207_6
                clear hi207_6 hl207_6
                have HR207_7 := Aside0.mk hi207_7
                have HC207_7 := Aside0.mk hl207_7
                clear hi207_7 hl207_7
                replace p207 := eq_true p207
                replace q207 := eq_true q207
                have p208 : 0 ≤ (0 : Int) := (by omega)
                have q208 : 0 < (l0_1.length : Int) := of_decide_eq_true (by first | (with_reducible assumption) | assumption)
                obtain ⟨ad208, A208_2, c208_2, A208_5, c208_5, A208_6, c208_6, A208_7, c208_7, e208, hx208_0, hx208_1, hx208_2, hx208_3, hx208_4, hx208_5, hx208_6, hx208_7, hl208_2, hi208_2, hl208_5, hi208_5, hl208_6, hi208_6, hl208_7, hi208_7⟩ := at_T46 HR0_1.out 0 p208 q208
                obtain rfl : ad207 = ad208 := (by injection e208)
                have qi208 : (0 < l0_1.length) = True := eq_true (by omega)
                (try rw [show ((0 : Int)).toNat = 0 from rfl] at hx208_0)
                (try rw [show 0 * 8 = 0 from rfl] at hx208_0)
                (try rw [Addr.add_zero'] at hx208_0)
                (try rw [show ((0 : Int)).toNat = 0 from rfl] at hx208_1)
                (try rw [show 0 * 8 = 0 from rfl] at hx208_1)
                (try rw [Addr.add_zero'] at hx208_1)
                (try rw [show ((0 : Int)).toNat = 0 from rfl] at hx208_2)
                (try rw [show 0 * 8 = 0 from rfl] at hx208_2)
                (try rw [Addr.add_zero'] at hx208_2)
                (try rw [show ((0 : Int)).toNat = 0 from rfl] at hx208_3)
                (try rw [show 0 * 8 = 0 from rfl] at hx208_3)
                (try rw [Addr.add_zero'] at hx208_3)
                (try rw [show ((0 : Int)).toNat = 0 from rfl] at hx208_4)
                (try rw [show 0 * 8 = 0 from rfl] at hx208_4)
                (try rw [Addr.add_zero'] at hx208_4)
                (try rw [show ((0 : Int)).toNat = 0 from rfl] at hx208_5)
                (try rw [show 0 * 8 = 0 from rfl] at hx208_5)
                (try rw [Addr.add_zero'] at hx208_5)
                (try rw [show ((0 : Int)).toNat = 0 from rfl] at hx208_6)
                (try rw [show 0 * 8 = 0 from rfl] at hx208_6)
                (try rw [Addr.add_zero'] at hx208_6)
                (try rw [show ((0 : Int)).toNat = 0 from rfl] at hx208_7)
                (try rw [show 0 * 8 = 0 from rfl] at hx208_7)
                (try rw [Addr.add_zero'] at hx208_7)
                replace hx208_0 := (HB.out.cell (World.block_lt_of_cell? w _ hx208_0)).trans hx208_0
                replace hx208_1 := (HB.out.cell (World.block_lt_of_cell? w _ hx208_1)).trans hx208_1
                replace hx208_2 := (HB.out.cell (World.block_lt_of_cell? w _ hx208_2)).trans hx208_2
                replace hx208_3 := (HB.out.cell (World.block_lt_of_cell? w _ hx208_3)).trans hx208_3
                replace hx208_4 := (HB.out.cell (World.block_lt_of_cell? w _ hx208_4)).trans hx208_4
                replace hx208_5 := (HB.out.cell (World.block_lt_of_cell? w _ hx208_5)).trans hx208_5
                replace hx208_6 := (HB.out.cell (World.block_lt_of_cell? w _ hx208_6)).trans hx208_6
                replace hx208_7 := (HB.out.cell (World.block_lt_of_cell? w _ hx208_7)).trans hx208_7
                have HR208_2 := Aside0.mk hi208_2
                have HC208_2 := Aside0.mk hl208_2
                clear hi208_2 hl208_2
                have HR208_5 := Aside0.mk hi208_5
                have HC208_5 := Aside0.mk hl208_5
                clear hi208_5 hl208_5
                have HR208_6 := Aside0.mk hi208_6
                have HC208_6 := Aside0.mk hl208_6
                clear hi208_6 hl208_6
                have HR208_7 := Aside0.mk hi208_7
                have HC208_7 := Aside0.mk hl208_7
                clear hi208_7 hl208_7
                replace p208 := eq_true p208
                replace q208 := eq_true q208
                have ea_ := Option.some.inj (hx207_2.symm.trans hx208_2)
                injection ea_ with ea_ en_ ec_
                subst ea_
                subst ec_
                clear en_
                have ea_ := Option.some.inj (hx207_5.symm.trans hx208_5)
                injection ea_ with ea_ en_ ec_
                subst ea_
                subst ec_
                clear en_
                have ea_ := Option.some.inj (hx207_6.symm.trans hx208_6)
                injection ea_ with ea_ en_ ec_
                subst ea_
                subst ec_
                clear en_
                have ea_ := Option.some.inj (hx207_7.symm.trans hx208_7)
                injection ea_ with ea_ en_ ec_
                subst ea_
                subst ec_
                clear en_
                have p209 : 0 ≤ (0 : Int) := (by omega)
                have q209 : 0 < (l0_1.length : Int) := of_decide_eq_true (by first | (with_reducible assumption) | assumption)
                obtain ⟨ad209, A209_2, c209_2, A209_5, c209_5, A209_6, c209_6, A209_7, c209_7, e209, hx209_0, hx209_1, hx209_2, hx209_3, hx209_4, hx209_5, hx209_6, hx209_7, hl209_2, hi209_2, hl209_5, hi209_5, hl209_6, hi209_6, hl209_7, hi209_7⟩ := at_T46 HR0_1.out 0 p209 q209
                obtain rfl : ad207 = ad209 := (by injection e209)
                have qi209 : (0 < l0_1.length) = True := eq_true (by omega)
                (try rw [show ((0 : Int)).toNat = 0 from rfl] at hx209_0)
                (try rw [show 0 * 8 = 0 from rfl] at hx209_0)
                (try rw [Addr.add_zero'] at hx209_0)
                (try rw [show ((0 : Int)).toNat = 0 from rfl] at hx209_1)
                (try rw [show 0 * 8 = 0 from rfl] at hx209_1)
                (try rw [Addr.add_zero'] at hx209_1)
                (try rw [show ((0 : Int)).toNat = 0 from rfl] at hx209_2)
                (try rw [show 0 * 8 = 0 from rfl] at hx209_2)
                (try rw [Addr.add_zero'] at hx209_2)
                (try rw [show ((0 : Int)).toNat = 0 from rfl] at hx209_3)
                (try rw [show 0 * 8 = 0 from rfl] at hx209_3)
                (try rw [Addr.add_zero'] at hx209_3)
                (try rw [show ((0 : Int)).toNat = 0 from rfl] at hx209_4)
                (try rw [show 0 * 8 = 0 from rfl] at hx209_4)
                (try rw [Addr.add_zero'] at hx209_4)
                (try rw [show ((0 : Int)).toNat = 0 from rfl] at hx209_5)
                (try rw [show 0 * 8 = 0 from rfl] at hx209_5)
                (try rw [Addr.add_zero'] at hx209_5)
                (try rw [show ((0 : Int)).toNat = 0 from rfl] at hx209_6)
                (try rw [show 0 * 8 = 0 from rfl] at hx209_6)
                (try rw [Addr.add_zero'] at hx209_6)
                (try rw [show ((0 : Int)).toNat = 0 from rfl] at hx209_7)
                (try rw [show 0 * 8 = 0 from rfl] at hx209_7)
                (try rw [Addr.add_zero'] at hx209_7)
                replace hx209_0 := (HB.out.cell (World.block_lt_of_cell? w _ hx209_0)).trans hx209_0
                replace hx209_1 := (HB.out.cell (World.block_lt_of_cell? w _ hx209_1)).trans hx209_1
                replace hx209_2 := (HB.out.cell (World.block_lt_of_cell? w _ hx209_2)).trans hx209_2
                replace hx209_3 := (HB.out.cell (World.block_lt_of_cell? w _ hx209_3)).trans hx209_3
                replace hx209_4 := (HB.out.cell (World.block_lt_of_cell? w _ hx209_4)).trans hx209_4
                replace hx209_5 := (HB.out.cell (World.block_lt_of_cell? w _ hx209_5)).trans hx209_5
                replace hx209_6 := (HB.out.cell (World.block_lt_of_cell? w _ hx209_6)).trans hx209_6
                replace hx209_7 := (HB.out.cell (World.block_lt_of_cell? w _ hx209_7)).trans hx209_7
                have HR209_2 := Aside0.mk hi209_2
                have HC209_2 := Aside0.mk hl209_2
                clear hi209_2 hl209_2
                have HR209_5 := Aside0.mk hi209_5
                have HC209_5 := Aside0.mk hl209_5
                clear hi209_5 hl209_5
                have HR209_6 := Aside0.mk hi209_6
                have HC209_6 := Aside0.mk hl209_6
                clear hi209_6 hl209_6
                have HR209_7 := Aside0.mk hi209_7
                have HC209_7 := Aside0.mk hl209_7
                clear hi209_7 hl209_7
                replace p209 := eq_true p209
                replace q209 := eq_true q209
                have ea_ := Option.some.inj (hx207_2.symm.trans hx209_2)
                injection ea_ with ea_ en_ ec_
                subst ea_
                subst ec_
                clear en_
                have ea_ := Option.some.inj (hx207_5.symm.trans hx209_5)
                injection ea_ with ea_ en_ ec_
                subst ea_
                subst ec_
                clear en_
                have ea_ := Option.some.inj (hx207_6.symm.trans hx209_6)
                injection ea_ with ea_ en_ ec_
                subst ea_
                subst ec_
                clear en_
                have ea_ := Option.some.inj (hx207_7.symm.trans hx209_7)
                injection ea_ with ea_ en_ ec_
                subst ea_
                subst ec_
                clear en_
                go_wp2
                go_meet
                case rel => exact ⟨_, ((((rd_T46 l0_1 0).f3) != 1)), (by first | rfl | (simp; done) | (simp [*]; done)), H', ⟨by have := HJ1.out; first | omega | exact Nat.le_refl _⟩, ⟨by (with_reducible repeat (first | refine blk_drewN ?_ _ | refine blk_drew ?_ | refine blk_alloc ?_ _)); exact BK204.out⟩, ⟨by repeat (first | (with_reducible first | exact HB.out | apply below_alloc | apply pw_below_drewN | apply below_drew1 | refine below_set ?_ GE204.out) | exact HB.out)⟩⟩
            · rw [if_neg c15] at H
              have c15b0 : (((rd_T46 l0_1 0).f0) == (-1)) = false := beq_eq_false_iff_ne.mpr c15
              have c15b1 : (((rd_T46 l0_1 0).f0) != (-1)) = true := bne_iff_ne.mpr c15
              have H' := Aside0.mk H
              clear H
              have hcz19_0 : wc.cell? ⟨gb204, 0, none⟩ = some (.slice A0_0 l0_0.length c0_0) := (blk_cell BK204.out 0).trans rfl
              have hcz19_1 : wc.cell? ⟨gb204, 1, none⟩ = some (.slice A0_1 l0_1.length c0_1) := (blk_cell BK204.out 1).trans rfl
              have hfz19_0 := blk_frozen BK204.out 0
              have hfz19_1 := blk_frozen BK204.out 1
              have p207 : 0 ≤ (0 : Int) := (by omega)
              have q207 : 0 < (l0_1.length : Int) := of_decide_eq_true (by first | (with_reducible assumption) | assumption)
              obtain ⟨ad207, A207_2, c207_2, A207_5, c207_5, A207_6, c207_6, A207_7, c207_7, e207, hx207_0, hx207_1, hx207_2, hx207_3, hx207_4, hx207_5, hx207_6, hx207_7, hl207_2, hi207_2, hl207_5, hi207_5, hl207_6, hi207_6, hl207_7, hi207_7⟩ := at_T46 HR0_1.out 0 p207 q207
              cases e207
              have qi207 : (0 < l0_1.length) = True := eq_true (by omega)
              (try rw [show ((0 : Int)).toNat = 0 from rfl] at hx207_0)
              (try rw [show 0 * 8 = 0 from rfl] at hx207_0)
              (try rw [Addr.add_zero'] at hx207_0)
              (try rw [show ((0 : Int)).toNat = 0 from rfl] at hx207_1)
              (try rw [show 0 * 8 = 0 from rfl] at hx207_1)
              (try rw [Addr.add_zero'] at hx207_1)
              (try rw [show ((0 : Int)).toNat = 0 from rfl] at hx207_2)
              (try rw [show 0 * 8 = 0 from rfl] at hx207_2)
              (try rw [Addr.add_zero'] at hx207_2)
              (try rw [show ((0 : Int)).toNat = 0 from rfl] at hx207_3)
              (try rw [show 0 * 8 = 0 from rfl] at hx207_3)
              (try rw [Addr.add_zero'] at hx207_3)
              (try rw [show ((0 : Int)).toNat = 0 from rfl] at hx207_4)
              (try rw [show 0 * 8 = 0 from rfl] at hx207_4)
              (try rw [Addr.add_zero'] at hx207_4)
              (try rw [show ((0 : Int)).toNat = 0 from rfl] at hx207_5)
              (try rw [show 0 * 8 = 0 from rfl] at hx207_5)
              (try rw [Addr.add_zero'] at hx207_5)
              (try rw [show ((0 : Int)).toNat = 0 from rfl] at hx207_6)
              (try rw [show 0 * 8 = 0 from rfl] at hx207_6)
              (try rw [Addr.add_zero'] at hx207_6)
              (try rw [show ((0 : Int)).toNat = 0 from rfl] at hx207_7)
              (try rw [show 0 * 8 = 0 from rfl] at hx207_7)
              (try rw [Addr.add_zero'] at hx207_7)
              replace hx207_0 := (HB.out.cell (World.block_lt_of_cell? w _ hx207_0)).trans hx207_0
              replace hx207_1 := (HB.out.cell (World.block_lt_of_cell? w _ hx207_1)).trans hx207_1
              replace hx207_2 := (HB.out.cell (World.block_lt_of_cell? w _ hx207_2)).trans hx207_2
              replace hx207_3 := (HB.out.cell (World.block_lt_of_cell? w _ hx207_3)).trans hx207_3
              replace hx207_4 := (HB.out.cell (World.block_lt_of_cell? w _ hx207_4)).trans hx207_4
              replace hx207_5 := (HB.out.cell (World.block_lt_of_cell? w _ hx207_5)).trans hx207_5
              replace hx207_6 := (HB.out.cell (World.block_lt_of_cell? w _ hx207_6)).trans hx207_6
              replace hx207_7 := (HB.out.cell (World.block_lt_of_cell? w _ hx207_7)).trans hx207_7
              have HR207_2 := Aside0.mk hi207_2
              have HC207_2 := Aside0.mk hl207_2
              clear hi207_2 hl207_2
              have HR207_5 := Aside0.mk hi207_5
              have HC207_5 := Aside0.mk hl207_5
              clear hi207_5 hl207_5
              have HR207_6 := Aside0.mk hi207_6
              have HC207_6 := Aside0.mk hl207_6
              clear hi207_6 hl207_6
              have HR207_7 := Aside0.mk hi207_7
              have HC207_7 := Aside0.mk hl207_7
              clear hi207_7 hl207_7
              replace p207 := eq_true p207
              replace q207 := eq_true q207
              go_wp2
              go_meet
              case rel => exact ⟨_, (true), (by first | rfl | (simp; done) | (simp [*]; done)), H', ⟨by have := HJ1.out; first | omega | exact Nat.le_refl _⟩, ⟨by (with_reducible repeat (first | refine blk_drewN ?_ _ | refine blk_drew ?_ | refine blk_alloc ?_ _)); exact BK204.out⟩, ⟨by repeat (first | (with_reducible first | exact HB.out | apply below_alloc | apply pw_below_drewN | apply below_drew1 | refine below_set ?_ GE204.out) | exact HB.out)⟩⟩
          · rw [if_neg c14] at H
            exact absurd H (by simp)
        case rest =>
          clear HC13
          try clear c1
          try clear c2
          try clear p2
          try clear q2
          try clear hx2
          try clear qi2
          try clear c5
          try clear c6
          try clear c12
          try clear c14
          try clear c14b0
          try clear c14b1
          try clear c15
          try clear c15b0
          try clear c15b1
          try clear c16
          try clear c16b0
          try clear c16b1
          try clear hcz10_0
          try clear hcz10_1
          try clear hcz17_0
          try clear hcz17_1
          try clear hcz18_0
          try clear hcz18_1
          try clear hcz19_0
          try clear hcz19_1
          try clear hcz7_0
          try clear hcz7_1
          try clear hcz9_0
          try clear hcz9_1
          try clear hfz10_0
          try clear hfz10_1
          try clear hfz17_0
          try clear hfz17_1
          try clear hfz18_0
          try clear hfz18_1
          try clear hfz19_0
          try clear hfz19_1
          try clear hfz7_0
          try clear hfz7_1
          try clear hfz9_0
          try clear hfz9_1
          try clear hx207_0
          try clear hx207_1
          try clear hx207_2
          try clear hx207_3
          try clear hx207_4
          try clear hx207_5
          try clear hx207_6
          try clear hx207_7
          try clear hx208_0
          try clear hx208_1
          try clear hx208_2
          try clear hx208_3
          try clear hx208_4
          try clear hx208_5
          try clear hx208_6
          try clear hx208_7
          try clear hx209_0
          try clear hx209_1
          try clear hx209_2
          try clear hx209_3
          try clear hx209_4
          try clear hx209_5
          try clear hx209_6
          try clear hx209_7
          try clear p2
          try clear p207
          try clear p208
          try clear p209
          try clear q207
          try clear q208
          try clear q209
          obtain ⟨kq, x37_12, rfl, HA, HJ12, BK204, HB⟩ := hcut
          cases kq with
          | zero => exact absurd HA.out (by simp [spec_UnitOk.j1])
          | succ kj12 =>
            have H := HA.out
            clear HA
            simp only [spec_UnitOk.j1] at H
            by_cases c20 : x37_12 = true
            · subst c20
              have H1 : (some false) = some r := by rw [if_pos rfl] at H; exact H
              clear H
              have H := H1
              clear H1
              obtain rfl := Option.some.inj H
              simp only [Option.some.injEq, Prod.mk.injEq] at H
              obtain ⟨rfl⟩ := H
              go_wp2
              go_ret
              exact ⟨by first | rfl | (simp [errW_none, errW_some] <;> rfl) | (simp [*, errW_none, errW_some] <;> rfl), by repeat (first | (with_reducible first | exact HB.out | apply below_alloc | apply pw_below_drewN | apply below_drew1 | refine below_set ?_ GE204.out) | exact HB.out)⟩
            · replace c20 := Bool.eq_false_iff.mpr c20
              subst c20
              have H1 : (spec_UnitOk.l0 kj12 0 l0_0 l0_1) = some r := by rw [if_neg (show ¬ (false = true) by decide)] at H; exact H
              clear H
              have H := H1
              clear H1
              have H' := Aside0.mk H
              clear H
              go_wp2
              go_loopg [3] kj12 (fun kq v3 w' => ∃ (x3_3 : Int), v3 = .int .i64 x3_3 ∧ Aside0 (spec_UnitOk.l0 kq x3_3 l0_0 l0_1 = some r) ∧ Aside0 (kq ≤ kj12) ∧ Aside0 (w'.heap[gb204]? = some (.cells #[(.slice A0_0 l0_0.length c0_0), (.slice A0_1 l0_1.length c0_1)] 31 (0, 0))) ∧ Aside0 (Below w.heap.size w w'))
              case atStart => exact ⟨(0), (by first | rfl | (simp; done) | (simp [*]; done)), H', ⟨Nat.le_refl _⟩, ⟨by (with_reducible repeat (first | refine blk_drewN ?_ _ | refine blk_drew ?_ | refine blk_alloc ?_ _)); exact BK204.out⟩, ⟨by repeat (first | (with_reducible first | exact HB.out | apply below_alloc | apply pw_below_drewN | apply below_drew1 | refine below_set ?_ GE204.out) | exact HB.out)⟩⟩
              case round =>
                clear H'
                try clear c1
                try clear c2
                try clear p2
                try clear q2
                try clear hx2
                try clear qi2
                try clear c5
                try clear c6
                try clear c12
                try clear c14
                try clear c14b0
                try clear c14b1
                try clear c15
                try clear c15b0
                try clear c15b1
                try clear c16
                try clear c16b0
                try clear c16b1
                try clear c20
                try clear p20
                try clear q20
                try clear hx20
                try clear qi20
                try clear hcz10_0
                try clear hcz10_1
                try clear hcz17_0
                try clear hcz17_1
                try clear hcz18_0
                try clear hcz18_1
                try clear hcz19_0
                try clear hcz19_1
                try clear hcz7_0
                try clear hcz7_1
                try clear hcz9_0
                try clear hcz9_1
                try clear hfz10_0
                try clear hfz10_1
                try clear hfz17_0
                try clear hfz17_1
                try clear hfz18_0
                try clear hfz18_1
                try clear hfz19_0
                try clear hfz19_1
                try clear hfz7_0
                try clear hfz7_1
                try clear hfz9_0
                try clear hfz9_1
                try clear hx207_0
                try clear hx207_1
                try clear hx207_2
                try clear hx207_3
                try clear hx207_4
                try clear hx207_5
                try clear hx207_6
                try clear hx207_7
                try clear hx208_0
                try clear hx208_1
                try clear hx208_2
                try clear hx208_3
                try clear hx208_4
                try clear hx208_5
                try clear hx208_6
                try clear hx208_7
                try clear hx209_0
                try clear hx209_1
                try clear hx209_2
                try clear hx209_3
                try clear hx209_4
                try clear hx209_5
                try clear hx209_6
                try clear hx209_7
                try clear p2
                try clear p207
                try clear p208
                try clear p209
                try clear q2
                try clear q207
                try clear q208
                try clear q209
                obtain ⟨x3_3, rfl, HA, HK3, BK204, HB⟩ := hrel
                cases gk with
                | zero => exact absurd HA.out (by simp [spec_UnitOk.l0])
                | succ k3 =>
                  have H := HA.out
                  clear HA
                  simp only [spec_UnitOk.l0] at H
                  by_cases c21 : x3_3 < (l0_1.length : Int)
                  · rw [if_pos c21] at H
                    have c21b0 : decide (x3_3 < (l0_1.length : Int)) = true := decide_eq_true c21
                    clear c21
                    by_cases c22 : 0 ≤ x3_3
                    · rw [if_pos c22] at H
                      have c22b0 : decide (0 ≤ x3_3) = true := decide_eq_true c22
                      clear c22
                      replace H := Option.bind_eq_some_iff.mp H
                      obtain ⟨t211, A230, H⟩ := H
                      replace H : (if t211 = true then (spec_UnitOk.l0 k3 (wrap64 (x3_3 + 1)) l0_0 l0_1) else (some false)) = some r := H
                      have A23 := Aside0.mk A230
                      clear A230
                      by_cases c24 : t211 = true
                      · subst c24
                        have H1 : (spec_UnitOk.l0 k3 (wrap64 (x3_3 + 1)) l0_0 l0_1) = some r := by rw [if_pos rfl] at H; exact H
                        clear H
                        have H := H1
                        clear H1
                        have H' := Aside0.mk H
                        clear H
                        have hcz25_0 : wr.cell? ⟨gb204, 0, none⟩ = some (.slice A0_0 l0_0.length c0_0) := (blk_cell BK204.out 0).trans rfl
                        have hcz25_1 : wr.cell? ⟨gb204, 1, none⟩ = some (.slice A0_1 l0_1.length c0_1) := (blk_cell BK204.out 1).trans rfl
                        have hfz25_0 := blk_frozen BK204.out 0
                        have hfz25_1 := blk_frozen BK204.out 1
                        try go_wp2
                        have n0_ := Aside0.mk (blk_drew BK204.out)
                        have n1_ := Aside0.mk (below_drew1 HB.out)
                        clear BK204
                        clear HB
                        have BK204 := n0_
                        have HB := n1_
                        clear n0_ n1_
                        have p210 : 0 ≤ (x3_3 : Int) := of_decide_eq_true (by first | (with_reducible assumption) | assumption)
                        have q210 : x3_3 < (l0_1.length : Int) := of_decide_eq_true (by first | (with_reducible assumption) | assumption)
                        obtain ⟨ad210, A210_2, c210_2, A210_5, c210_5, A210_6, c210_6, A210_7, c210_7, e210, hx210_0, hx210_1, hx210_2, hx210_3, hx210_4, hx210_5, hx210_6, hx210_7, hl210_2, hi210_2, hl210_5, hi210_5, hl210_6, hi210_6, hl210_7, hi210_7⟩ := at_T46 HR0_1.out x3_3 p210 q210
                        have hw210_7 := hx210_7
                        have hw210_6 := hx210_6
                        have hw210_5 := hx210_5
                        have hw210_4 := hx210_4
                        have hw210_3 := hx210_3
                        have hw210_2 := hx210_2
                        have hw210_1 := hx210_1
                        have hw210_0 := hx210_0
                        cases e210
                        replace hx210_0 := (HB.out.cell (World.block_lt_of_cell? w _ hx210_0)).trans hx210_0
                        replace hx210_1 := (HB.out.cell (World.block_lt_of_cell? w _ hx210_1)).trans hx210_1
                        replace hx210_2 := (HB.out.cell (World.block_lt_of_cell? w _ hx210_2)).trans hx210_2
                        replace hx210_3 := (HB.out.cell (World.block_lt_of_cell? w _ hx210_3)).trans hx210_3
                        replace hx210_4 := (HB.out.cell (World.block_lt_of_cell? w _ hx210_4)).trans hx210_4
                        replace hx210_5 := (HB.out.cell (World.block_lt_of_cell? w _ hx210_5)).trans hx210_5
                        replace hx210_6 := (HB.out.cell (World.block_lt_of_cell? w _ hx210_6)).trans hx210_6
                        replace hx210_7 := (HB.out.cell (World.block_lt_of_cell? w _ hx210_7)).trans hx210_7
                        have HR210_2 := Aside0.mk hi210_2
                        have HC210_2 := Aside0.mk hl210_2
                        clear hi210_2 hl210_2
                        have HR210_5 := Aside0.mk hi210_5
                        have HC210_5 := Aside0.mk hl210_5
                        clear hi210_5 hl210_5
                        have HR210_6 := Aside0.mk hi210_6
                        have HC210_6 := Aside0.mk hl210_6
                        clear hi210_6 hl210_6
                        have HR210_7 := Aside0.mk hi210_7
                        have HC210_7 := Aside0.mk hl210_7
                        clear hi210_7 hl210_7
                        replace p210 := eq_true p210
                        replace q210 := eq_true q210
                        refine start_ (n := 8) (S := fun w' => w'.cell? ⟨gb204, 0, none⟩ = some (.slice A0_0 l0_0.length c0_0) ∧ w'.cell? ⟨gb204, 1, none⟩ = some (.slice (some ad210) l0_1.length c0_1) ∧ w'.cell? (ad210.add ((x3_3).toNat * 8)) = some (.int .i64 ((rd_T46 l0_1 x3_3).f0)) ∧ w'.cell? ⟨(ad210.add ((x3_3).toNat * 8)).block, (ad210.add ((x3_3).toNat * 8)).off + 1, none⟩ = some (.int .i64 ((rd_T46 l0_1 x3_3).f1)) ∧ w'.cell? ⟨(ad210.add ((x3_3).toNat * 8)).block, (ad210.add ((x3_3).toNat * 8)).off + 2, none⟩ = some (.slice A210_2 ((rd_T46 l0_1 x3_3).f2).length c210_2) ∧ w'.cell? ⟨(ad210.add ((x3_3).toNat * 8)).block, (ad210.add ((x3_3).toNat * 8)).off + 3, none⟩ = some (.int .i64 ((rd_T46 l0_1 x3_3).f3)) ∧ w'.cell? ⟨(ad210.add ((x3_3).toNat * 8)).block, (ad210.add ((x3_3).toNat * 8)).off + 4, none⟩ = some (.int .i64 ((rd_T46 l0_1 x3_3).f4)) ∧ w'.cell? ⟨(ad210.add ((x3_3).toNat * 8)).block, (ad210.add ((x3_3).toNat * 8)).off + 5, none⟩ = some (.slice A210_5 ((rd_T46 l0_1 x3_3).f5).length c210_5) ∧ w'.cell? ⟨(ad210.add ((x3_3).toNat * 8)).block, (ad210.add ((x3_3).toNat * 8)).off + 6, none⟩ = some (.slice A210_6 ((rd_T46 l0_1 x3_3).f6).length c210_6) ∧ w'.cell? ⟨(ad210.add ((x3_3).toNat * 8)).block, (ad210.add ((x3_3).toNat * 8)).off + 7, none⟩ = some (.slice A210_7 ((rd_T46 l0_1 x3_3).f7).length c210_7)) (ds := []) #[false, false, false, false, false, false, false, false] (by kernel_rfl) rfl rfl ⟨(blk_cell BK204.out 0).trans rfl, (blk_cell BK204.out 1).trans rfl, ((HB.out.cell (World.block_lt_of_cell? w _ hw210_0)).trans hw210_0), ((HB.out.cell (World.block_lt_of_cell? w _ hw210_1)).trans hw210_1), ((HB.out.cell (World.block_lt_of_cell? w _ hw210_2)).trans hw210_2), ((HB.out.cell (World.block_lt_of_cell? w _ hw210_3)).trans hw210_3), ((HB.out.cell (World.block_lt_of_cell? w _ hw210_4)).trans hw210_4), ((HB.out.cell (World.block_lt_of_cell? w _ hw210_5)).trans hw210_5), ((HB.out.cell (World.block_lt_of_cell? w _ hw210_6)).trans hw210_6), ((HB.out.cell (World.block_lt_of_cell? w _ hw210_7)).trans hw210_7)⟩ (fun hHeld => ?_); refine with_tabW spec_UnitOk.tab8 spec_UnitOk.bits8 (fun HT_ HW_ => ?_)
                        generalize wr.drew = w26 at BK204 HB HR210_2 HR210_5 HR210_6 HR210_7 hx210_0 hx210_1 hx210_2 hx210_3 hx210_4 hx210_5 hx210_6 hx210_7 hHeld ⊢
                        refine pure_ (i := 1) (N := some 46) (v := ?_) (a' := ?_) #[false, true, false, false, false, false, false, false] rfl rfl (any_of HT_.out (by kernel_rfl)) (fun _ _ _ h => h) (Or.inl ⟨by rfl, ?_⟩) ?_ ?_
                        rotate_left
                        · intro w'
                          go_simp
                          with_reducible rfl
                        rotate_left
                        · simp only [Act.put, List.setIfInBounds_toArray, List.set_cons_zero, List.set_cons_succ, i64_w, i32_w]
                          rfl
                        refine pure_ (i := 3) (N := some 48) (v := ?_) (a' := ?_) #[false, true, false, true, false, false, false, false] rfl rfl (any_of HT_.out (by kernel_rfl)) (fun _ _ _ h => h) (Or.inl ⟨by rfl, ?_⟩) ?_ ?_
                        rotate_left
                        · intro w'
                          go_simp
                          with_reducible rfl
                        rotate_left
                        · simp only [Act.put, List.setIfInBounds_toArray, List.set_cons_zero, List.set_cons_succ, i64_w, i32_w]
                          rfl
                        refine take_ (i := 0) (N := some 45) (v := ?_) (a' := ?_) #[true, true, false, true, false, false, false, false] rfl rfl (take_ofW HT_.out HW_.out (by kernel_rfl)) (fun _ _ _ h => h) (Or.inl ⟨by rfl, ?_⟩) hHeld ?_ ?_
                        rotate_left
                        · rintro w' ⟨s0, s1, s2, s3, s4, s5, s6, s7, s8, s9⟩
                          go_simp
                          with_reducible rfl
                        rotate_left
                        · simp only [Act.put, List.setIfInBounds_toArray, List.set_cons_zero, List.set_cons_succ, i64_w, i32_w]
                          rfl
                        refine take_ (i := 2) (N := some 47) (v := ?_) (a' := ?_) #[true, true, true, true, false, false, false, false] rfl rfl (take_ofW HT_.out HW_.out (by kernel_rfl)) (fun _ _ _ h => h) (Or.inl ⟨by rfl, ?_⟩) hHeld ?_ ?_
                        rotate_left
                        · rintro w' ⟨s0, s1, s2, s3, s4, s5, s6, s7, s8, s9⟩
                          go_simp
                          with_reducible rfl
                        rotate_left
                        · simp only [Act.put, List.setIfInBounds_toArray, List.set_cons_zero, List.set_cons_succ, i64_w, i32_w]
                          rfl
                        refine pure_ (i := 4) (N := some 49) (v := ?_) (a' := ?_) #[true, true, true, true, true, false, false, false] rfl rfl (any_of HT_.out (by kernel_rfl)) (fun _ _ _ h => h) (Or.inl ⟨by rfl, ?_⟩) ?_ ?_
                        rotate_left
                        · intro w'
                          go_simp
                          with_reducible rfl
                        rotate_left
                        · simp only [Act.put, List.setIfInBounds_toArray, List.set_cons_zero, List.set_cons_succ, i64_w, i32_w]
                          rfl
                        refine take_ (i := 5) (N := some 50) (v := ?_) (a' := ?_) #[true, true, true, true, true, true, false, false] rfl rfl (take_ofW HT_.out HW_.out (by kernel_rfl)) (fun _ _ _ h => h) (Or.inl ⟨by rfl, ?_⟩) hHeld ?_ ?_
                        rotate_left
                        · rintro w' ⟨s0, s1, s2, s3, s4, s5, s6, s7, s8, s9⟩
                          go_simp
                          with_reducible rfl
                        rotate_left
                        · simp only [Act.put, List.setIfInBounds_toArray, List.set_cons_zero, List.set_cons_succ, i64_w, i32_w]
                          rfl
                        refine one_ (i := 6) (N := some 51) #[true, true, true, true, true, true, true, false] rfl rfl (one_of HT_.out (by kernel_rfl)) (by decide) (fun K hK => ?_)
                        refine goes_ Try.func16 (by kernel_rfl) rfl #[.agg #[.slice A0_0 l0_0.length c0_0, .slice (some ad210) l0_1.length c0_1], .agg #[.int .i64 ((rd_T46 l0_1 x3_3).f0), .int .i64 ((rd_T46 l0_1 x3_3).f1), .slice A210_2 ((rd_T46 l0_1 x3_3).f2).length c210_2, .int .i64 ((rd_T46 l0_1 x3_3).f3), .int .i64 ((rd_T46 l0_1 x3_3).f4), .slice A210_5 ((rd_T46 l0_1 x3_3).f5).length c210_5, .slice A210_6 ((rd_T46 l0_1 x3_3).f6).length c210_6, .slice A210_7 ((rd_T46 l0_1 x3_3).f7).length c210_7]] (by rfl) rfl rfl (by (try simp only [List.map_toArray, List.map_cons, List.map_nil]); first | done | rfl | (simp only [List.length_drop, List.length_take]; rfl)) ?_
                        with_reducible refine (spec_l3Method.calls k3 _ _ l0_0 _ _ l0_1 ((rd_T46 l0_1 x3_3).f0) ((rd_T46 l0_1 x3_3).f1) _ _ ((rd_T46 l0_1 x3_3).f2) ((rd_T46 l0_1 x3_3).f3) ((rd_T46 l0_1 x3_3).f4) _ _ ((rd_T46 l0_1 x3_3).f5) _ _ ((rd_T46 l0_1 x3_3).f6) _ _ ((rd_T46 l0_1 x3_3).f7) true _ ?side1 ?side2 ?side3 ?side4 ?side5 ?side6 ?side7 ?side8 ?side9 ?side10 ?side11 ?side12 A23.out).mono ?_
                        (case side1 => repeat (first | exact (Kd.C_below HR0_0.out HB.out) | (with_reducible refine Kd.C_alloc ?_ _) | (with_reducible refine Kd.C_drewN ?_ _) | (with_reducible refine Kd.C_drew ?_)))
                        (case side2 => exact HC0_0.out)
                        (case side3 => repeat (first | exact (Kd.C_below HR0_1.out HB.out) | (with_reducible refine Kd.C_alloc ?_ _) | (with_reducible refine Kd.C_drewN ?_ _) | (with_reducible refine Kd.C_drew ?_)))
                        (case side4 => exact HC0_1.out)
                        (case side5 => repeat (first | exact (Kd.C_below HR210_2.out HB.out) | (with_reducible refine Kd.C_alloc ?_ _) | (with_reducible refine Kd.C_drewN ?_ _) | (with_reducible refine Kd.C_drew ?_)))
                        (case side6 => exact HC210_2.out)
                        (case side7 => repeat (first | exact (Kd.C_below HR210_5.out HB.out) | (with_reducible refine Kd.C_alloc ?_ _) | (with_reducible refine Kd.C_drewN ?_ _) | (with_reducible refine Kd.C_drew ?_)))
                        (case side8 => exact HC210_5.out)
                        (case side9 => repeat (first | exact (Kd.C_below HR210_6.out HB.out) | (with_reducible refine Kd.C_alloc ?_ _) | (with_reducible refine Kd.C_drewN ?_ _) | (with_reducible refine Kd.C_drew ?_)))
                        (case side10 => exact HC210_6.out)
                        (case side11 => repeat (first | exact (Kd.C_below HR210_7.out HB.out) | (with_reducible refine Kd.C_alloc ?_ _) | (with_reducible refine Kd.C_drewN ?_ _) | (with_reducible refine Kd.C_drew ?_)))
                        (case side12 => exact HC210_7.out)
                        rintro e w27 ⟨rfl, hb⟩
                        refine ⟨_, rfl, ?_⟩
                        have n0_ := Aside0.mk (blk_below (g := gb204) (o := .cells #[.slice A0_0 l0_0.length c0_0, .slice (some ad210) l0_1.length c0_1] 31 (0, 0)) (by (with_reducible repeat (first | refine blk_drewN ?_ _ | refine blk_drew ?_ | refine blk_alloc ?_ _)); exact BK204.out) hb)
                        have n1_ := Aside0.mk (below_step (by repeat (first | (with_reducible first | exact HB.out | apply below_alloc | apply pw_below_drewN | apply below_drew1 | refine below_set ?_ GE204.out) | exact HB.out)) hb)
                        clear BK204
                        clear HB
                        have BK204 := n0_
                        have HB := n1_
                        clear n0_ n1_
                        (try clear hb)
                        (try clear hb2)
                        (try clear hk)
                        (try clear hi)
                        refine hK.out _ _ ⟨(blk_cell BK204.out 0).trans rfl, (blk_cell BK204.out 1).trans rfl, ((HB.out.cell (World.block_lt_of_cell? w _ hw210_0)).trans hw210_0), ((HB.out.cell (World.block_lt_of_cell? w _ hw210_1)).trans hw210_1), ((HB.out.cell (World.block_lt_of_cell? w _ hw210_2)).trans hw210_2), ((HB.out.cell (World.block_lt_of_cell? w _ hw210_3)).trans hw210_3), ((HB.out.cell (World.block_lt_of_cell? w _ hw210_4)).trans hw210_4), ((HB.out.cell (World.block_lt_of_cell? w _ hw210_5)).trans hw210_5), ((HB.out.cell (World.block_lt_of_cell? w _ hw210_6)).trans hw210_6), ((HB.out.cell (World.block_lt_of_cell? w _ hw210_7)).trans hw210_7)⟩ (fun hHeld => ?_)
                        clear hK K
                        refine norm_ (a' := ?_) ?_ ?_
                        rotate_left
                        · show Act.put _ (some 51) _ = _
                          simp only [Act.put, List.setIfInBounds_toArray, List.set_cons_zero, List.set_cons_succ, i64_w, i32_w]
                          rfl
                        refine pure_ (i := 7) (N := some 52) (v := ?_) (a' := ?_) #[true, true, true, true, true, true, true, true] rfl rfl (any_of HT_.out (by kernel_rfl)) (fun _ _ _ h => h) (Or.inl ⟨by rfl, ?_⟩) ?_ ?_
                        rotate_left
                        · intro w'
                          go_simp
                          with_reducible rfl
                        rotate_left
                        · simp only [Act.put, List.setIfInBounds_toArray, List.set_cons_zero, List.set_cons_succ, i64_w, i32_w]
                          rfl
                        refine done_ (done_of HT_.out (by kernel_rfl)) ?_
                        try go_wp2
                        go_roundg k3
                        case measure => have := HJ1.out; have := HJ12.out; have := HK3.out; omega
                        case rel => exact ⟨(wrap64 (x3_3 + 1)), (by first | rfl | (simp; done) | (simp [*]; done)), H', ⟨by have := HJ1.out; have := HJ12.out; have := HK3.out; omega⟩, ⟨by (with_reducible repeat (first | refine blk_drewN ?_ _ | refine blk_drew ?_ | refine blk_alloc ?_ _)); exact BK204.out⟩, ⟨by repeat (first | (with_reducible first | exact HB.out | apply below_alloc | apply pw_below_drewN | apply below_drew1 | refine below_set ?_ GE204.out) | exact HB.out)⟩⟩
                      · replace c24 := Bool.eq_false_iff.mpr c24
                        subst c24
                        have H1 : (some false) = some r := by rw [if_neg (show ¬ (false = true) by decide)] at H; exact H
                        clear H
                        have H := H1
                        clear H1
                        obtain rfl := Option.some.inj H
                        simp only [Option.some.injEq, Prod.mk.injEq] at H
                        obtain ⟨rfl⟩ := H
                        have hcz28_0 : wr.cell? ⟨gb204, 0, none⟩ = some (.slice A0_0 l0_0.length c0_0) := (blk_cell BK204.out 0).trans rfl
                        have hcz28_1 : wr.cell? ⟨gb204, 1, none⟩ = some (.slice A0_1 l0_1.length c0_1) := (blk_cell BK204.out 1).trans rfl
                        have hfz28_0 := blk_frozen BK204.out 0
                        have hfz28_1 := blk_frozen BK204.out 1
                        try go_wp2
                        have n0_ := Aside0.mk (blk_drew BK204.out)
                        have n1_ := Aside0.mk (below_drew1 HB.out)
                        clear BK204
                        clear HB
                        have BK204 := n0_
                        have HB := n1_
                        clear n0_ n1_
                        have p210 : 0 ≤ (x3_3 : Int) := of_decide_eq_true (by first | (with_reducible assumption) | assumption)
                        have q210 : x3_3 < (l0_1.length : Int) := of_decide_eq_true (by first | (with_reducible assumption) | assumption)
                        obtain ⟨ad210, A210_2, c210_2, A210_5, c210_5, A210_6, c210_6, A210_7, c210_7, e210, hx210_0, hx210_1, hx210_2, hx210_3, hx210_4, hx210_5, hx210_6, hx210_7, hl210_2, hi210_2, hl210_5, hi210_5, hl210_6, hi210_6, hl210_7, hi210_7⟩ := at_T46 HR0_1.out x3_3 p210 q210
                        have hw210_7 := hx210_7
                        have hw210_6 := hx210_6
                        have hw210_5 := hx210_5
                        have hw210_4 := hx210_4
                        have hw210_3 := hx210_3
                        have hw210_2 := hx210_2
                        have hw210_1 := hx210_1
                        have hw210_0 := hx210_0
                        cases e210
                        replace hx210_0 := (HB.out.cell (World.block_lt_of_cell? w _ hx210_0)).trans hx210_0
                        replace hx210_1 := (HB.out.cell (World.block_lt_of_cell? w _ hx210_1)).trans hx210_1
                        replace hx210_2 := (HB.out.cell (World.block_lt_of_cell? w _ hx210_2)).trans hx210_2
                        replace hx210_3 := (HB.out.cell (World.block_lt_of_cell? w _ hx210_3)).trans hx210_3
                        replace hx210_4 := (HB.out.cell (World.block_lt_of_cell? w _ hx210_4)).trans hx210_4
                        replace hx210_5 := (HB.out.cell (World.block_lt_of_cell? w _ hx210_5)).trans hx210_5
                        replace hx210_6 := (HB.out.cell (World.block_lt_of_cell? w _ hx210_6)).trans hx210_6
                        replace hx210_7 := (HB.out.cell (World.block_lt_of_cell? w _ hx210_7)).trans hx210_7
                        have HR210_2 := Aside0.mk hi210_2
                        have HC210_2 := Aside0.mk hl210_2
                        clear hi210_2 hl210_2
                        have HR210_5 := Aside0.mk hi210_5
                        have HC210_5 := Aside0.mk hl210_5
                        clear hi210_5 hl210_5
                        have HR210_6 := Aside0.mk hi210_6
                        have HC210_6 := Aside0.mk hl210_6
                        clear hi210_6 hl210_6
                        have HR210_7 := Aside0.mk hi210_7
                        have HC210_7 := Aside0.mk hl210_7
                        clear hi210_7 hl210_7
                        replace p210 := eq_true p210
                        replace q210 := eq_true q210
                        refine start_ (n := 8) (S := fun w' => w'.cell? ⟨gb204, 0, none⟩ = some (.slice A0_0 l0_0.length c0_0) ∧ w'.cell? ⟨gb204, 1, none⟩ = some (.slice (some ad210) l0_1.length c0_1) ∧ w'.cell? (ad210.add ((x3_3).toNat * 8)) = some (.int .i64 ((rd_T46 l0_1 x3_3).f0)) ∧ w'.cell? ⟨(ad210.add ((x3_3).toNat * 8)).block, (ad210.add ((x3_3).toNat * 8)).off + 1, none⟩ = some (.int .i64 ((rd_T46 l0_1 x3_3).f1)) ∧ w'.cell? ⟨(ad210.add ((x3_3).toNat * 8)).block, (ad210.add ((x3_3).toNat * 8)).off + 2, none⟩ = some (.slice A210_2 ((rd_T46 l0_1 x3_3).f2).length c210_2) ∧ w'.cell? ⟨(ad210.add ((x3_3).toNat * 8)).block, (ad210.add ((x3_3).toNat * 8)).off + 3, none⟩ = some (.int .i64 ((rd_T46 l0_1 x3_3).f3)) ∧ w'.cell? ⟨(ad210.add ((x3_3).toNat * 8)).block, (ad210.add ((x3_3).toNat * 8)).off + 4, none⟩ = some (.int .i64 ((rd_T46 l0_1 x3_3).f4)) ∧ w'.cell? ⟨(ad210.add ((x3_3).toNat * 8)).block, (ad210.add ((x3_3).toNat * 8)).off + 5, none⟩ = some (.slice A210_5 ((rd_T46 l0_1 x3_3).f5).length c210_5) ∧ w'.cell? ⟨(ad210.add ((x3_3).toNat * 8)).block, (ad210.add ((x3_3).toNat * 8)).off + 6, none⟩ = some (.slice A210_6 ((rd_T46 l0_1 x3_3).f6).length c210_6) ∧ w'.cell? ⟨(ad210.add ((x3_3).toNat * 8)).block, (ad210.add ((x3_3).toNat * 8)).off + 7, none⟩ = some (.slice A210_7 ((rd_T46 l0_1 x3_3).f7).length c210_7)) (ds := []) #[false, false, false, false, false, false, false, false] (by kernel_rfl) rfl rfl ⟨(blk_cell BK204.out 0).trans rfl, (blk_cell BK204.out 1).trans rfl, ((HB.out.cell (World.block_lt_of_cell? w _ hw210_0)).trans hw210_0), ((HB.out.cell (World.block_lt_of_cell? w _ hw210_1)).trans hw210_1), ((HB.out.cell (World.block_lt_of_cell? w _ hw210_2)).trans hw210_2), ((HB.out.cell (World.block_lt_of_cell? w _ hw210_3)).trans hw210_3), ((HB.out.cell (World.block_lt_of_cell? w _ hw210_4)).trans hw210_4), ((HB.out.cell (World.block_lt_of_cell? w _ hw210_5)).trans hw210_5), ((HB.out.cell (World.block_lt_of_cell? w _ hw210_6)).trans hw210_6), ((HB.out.cell (World.block_lt_of_cell? w _ hw210_7)).trans hw210_7)⟩ (fun hHeld => ?_); refine with_tabW spec_UnitOk.tab8 spec_UnitOk.bits8 (fun HT_ HW_ => ?_)
                        generalize wr.drew = w29 at BK204 HB HR210_2 HR210_5 HR210_6 HR210_7 hx210_0 hx210_1 hx210_2 hx210_3 hx210_4 hx210_5 hx210_6 hx210_7 hHeld ⊢
                        refine pure_ (i := 1) (N := some 46) (v := ?_) (a' := ?_) #[false, true, false, false, false, false, false, false] rfl rfl (any_of HT_.out (by kernel_rfl)) (fun _ _ _ h => h) (Or.inl ⟨by rfl, ?_⟩) ?_ ?_
                        rotate_left
                        · intro w'
                          go_simp
                          with_reducible rfl
                        rotate_left
                        · simp only [Act.put, List.setIfInBounds_toArray, List.set_cons_zero, List.set_cons_succ, i64_w, i32_w]
                          rfl
                        refine pure_ (i := 3) (N := some 48) (v := ?_) (a' := ?_) #[false, true, false, true, false, false, false, false] rfl rfl (any_of HT_.out (by kernel_rfl)) (fun _ _ _ h => h) (Or.inl ⟨by rfl, ?_⟩) ?_ ?_
                        rotate_left
                        · intro w'
                          go_simp
                          with_reducible rfl
                        rotate_left
                        · simp only [Act.put, List.setIfInBounds_toArray, List.set_cons_zero, List.set_cons_succ, i64_w, i32_w]
                          rfl
                        refine take_ (i := 0) (N := some 45) (v := ?_) (a' := ?_) #[true, true, false, true, false, false, false, false] rfl rfl (take_ofW HT_.out HW_.out (by kernel_rfl)) (fun _ _ _ h => h) (Or.inl ⟨by rfl, ?_⟩) hHeld ?_ ?_
                        rotate_left
                        · rintro w' ⟨s0, s1, s2, s3, s4, s5, s6, s7, s8, s9⟩
                          go_simp
                          with_reducible rfl
                        rotate_left
                        · simp only [Act.put, List.setIfInBounds_toArray, List.set_cons_zero, List.set_cons_succ, i64_w, i32_w]
                          rfl
                        refine take_ (i := 2) (N := some 47) (v := ?_) (a' := ?_) #[true, true, true, true, false, false, false, false] rfl rfl (take_ofW HT_.out HW_.out (by kernel_rfl)) (fun _ _ _ h => h) (Or.inl ⟨by rfl, ?_⟩) hHeld ?_ ?_
                        rotate_left
                        · rintro w' ⟨s0, s1, s2, s3, s4, s5, s6, s7, s8, s9⟩
                          go_simp
                          with_reducible rfl
                        rotate_left
                        · simp only [Act.put, List.setIfInBounds_toArray, List.set_cons_zero, List.set_cons_succ, i64_w, i32_w]
                          rfl
                        refine pure_ (i := 4) (N := some 49) (v := ?_) (a' := ?_) #[true, true, true, true, true, false, false, false] rfl rfl (any_of HT_.out (by kernel_rfl)) (fun _ _ _ h => h) (Or.inl ⟨by rfl, ?_⟩) ?_ ?_
                        rotate_left
                        · intro w'
                          go_simp
                          with_reducible rfl
                        rotate_left
                        · simp only [Act.put, List.setIfInBounds_toArray, List.set_cons_zero, List.set_cons_succ, i64_w, i32_w]
                          rfl
                        refine take_ (i := 5) (N := some 50) (v := ?_) (a' := ?_) #[true, true, true, true, true, true, false, false] rfl rfl (take_ofW HT_.out HW_.out (by kernel_rfl)) (fun _ _ _ h => h) (Or.inl ⟨by rfl, ?_⟩) hHeld ?_ ?_
                        rotate_left
                        · rintro w' ⟨s0, s1, s2, s3, s4, s5, s6, s7, s8, s9⟩
                          go_simp
                          with_reducible rfl
                        rotate_left
                        · simp only [Act.put, List.setIfInBounds_toArray, List.set_cons_zero, List.set_cons_succ, i64_w, i32_w]
                          rfl
                        refine one_ (i := 6) (N := some 51) #[true, true, true, true, true, true, true, false] rfl rfl (one_of HT_.out (by kernel_rfl)) (by decide) (fun K hK => ?_)
                        refine goes_ Try.func16 (by kernel_rfl) rfl #[.agg #[.slice A0_0 l0_0.length c0_0, .slice (some ad210) l0_1.length c0_1], .agg #[.int .i64 ((rd_T46 l0_1 x3_3).f0), .int .i64 ((rd_T46 l0_1 x3_3).f1), .slice A210_2 ((rd_T46 l0_1 x3_3).f2).length c210_2, .int .i64 ((rd_T46 l0_1 x3_3).f3), .int .i64 ((rd_T46 l0_1 x3_3).f4), .slice A210_5 ((rd_T46 l0_1 x3_3).f5).length c210_5, .slice A210_6 ((rd_T46 l0_1 x3_3).f6).length c210_6, .slice A210_7 ((rd_T46 l0_1 x3_3).f7).length c210_7]] (by rfl) rfl rfl (by (try simp only [List.map_toArray, List.map_cons, List.map_nil]); first | done | rfl | (simp only [List.length_drop, List.length_take]; rfl)) ?_
                        with_reducible refine (spec_l3Method.calls k3 _ _ l0_0 _ _ l0_1 ((rd_T46 l0_1 x3_3).f0) ((rd_T46 l0_1 x3_3).f1) _ _ ((rd_T46 l0_1 x3_3).f2) ((rd_T46 l0_1 x3_3).f3) ((rd_T46 l0_1 x3_3).f4) _ _ ((rd_T46 l0_1 x3_3).f5) _ _ ((rd_T46 l0_1 x3_3).f6) _ _ ((rd_T46 l0_1 x3_3).f7) false _ ?side1 ?side2 ?side3 ?side4 ?side5 ?side6 ?side7 ?side8 ?side9 ?side10 ?side11 ?side12 A23.out).mono ?_
                        (case side1 => repeat (first | exact (Kd.C_below HR0_0.out HB.out) | (with_reducible refine Kd.C_alloc ?_ _) | (with_reducible refine Kd.C_drewN ?_ _) | (with_reducible refine Kd.C_drew ?_)))
                        (case side2 => exact HC0_0.out)
                        (case side3 => repeat (first | exact (Kd.C_below HR0_1.out HB.out) | (with_reducible refine Kd.C_alloc ?_ _) | (with_reducible refine Kd.C_drewN ?_ _) | (with_reducible refine Kd.C_drew ?_)))
                        (case side4 => exact HC0_1.out)
                        (case side5 => repeat (first | exact (Kd.C_below HR210_2.out HB.out) | (with_reducible refine Kd.C_alloc ?_ _) | (with_reducible refine Kd.C_drewN ?_ _) | (with_reducible refine Kd.C_drew ?_)))
                        (case side6 => exact HC210_2.out)
                        (case side7 => repeat (first | exact (Kd.C_below HR210_5.out HB.out) | (with_reducible refine Kd.C_alloc ?_ _) | (with_reducible refine Kd.C_drewN ?_ _) | (with_reducible refine Kd.C_drew ?_)))
                        (case side8 => exact HC210_5.out)
                        (case side9 => repeat (first | exact (Kd.C_below HR210_6.out HB.out) | (with_reducible refine Kd.C_alloc ?_ _) | (with_reducible refine Kd.C_drewN ?_ _) | (with_reducible refine Kd.C_drew ?_)))
                        (case side10 => exact HC210_6.out)
                        (case side11 => repeat (first | exact (Kd.C_below HR210_7.out HB.out) | (with_reducible refine Kd.C_alloc ?_ _) | (with_reducible refine Kd.C_drewN ?_ _) | (with_reducible refine Kd.C_drew ?_)))
                        (case side12 => exact HC210_7.out)
                        rintro e w30 ⟨rfl, hb⟩
                        refine ⟨_, rfl, ?_⟩
                        have n0_ := Aside0.mk (blk_below (g := gb204) (o := .cells #[.slice A0_0 l0_0.length c0_0, .slice (some ad210) l0_1.length c0_1] 31 (0, 0)) (by (with_reducible repeat (first | refine blk_drewN ?_ _ | refine blk_drew ?_ | refine blk_alloc ?_ _)); exact BK204.out) hb)
                        have n1_ := Aside0.mk (below_step (by repeat (first | (with_reducible first | exact HB.out | apply below_alloc | apply pw_below_drewN | apply below_drew1 | refine below_set ?_ GE204.out) | exact HB.out)) hb)
                        clear BK204
                        clear HB
                        have BK204 := n0_
                        have HB := n1_
                        clear n0_ n1_
                        (try clear hb)
                        (try clear hb2)
                        (try clear hk)
                        (try clear hi)
                        refine hK.out _ _ ⟨(blk_cell BK204.out 0).trans rfl, (blk_cell BK204.out 1).trans rfl, ((HB.out.cell (World.block_lt_of_cell? w _ hw210_0)).trans hw210_0), ((HB.out.cell (World.block_lt_of_cell? w _ hw210_1)).trans hw210_1), ((HB.out.cell (World.block_lt_of_cell? w _ hw210_2)).trans hw210_2), ((HB.out.cell (World.block_lt_of_cell? w _ hw210_3)).trans hw210_3), ((HB.out.cell (World.block_lt_of_cell? w _ hw210_4)).trans hw210_4), ((HB.out.cell (World.block_lt_of_cell? w _ hw210_5)).trans hw210_5), ((HB.out.cell (World.block_lt_of_cell? w _ hw210_6)).trans hw210_6), ((HB.out.cell (World.block_lt_of_cell? w _ hw210_7)).trans hw210_7)⟩ (fun hHeld => ?_)
                        clear hK K
                        refine norm_ (a' := ?_) ?_ ?_
                        rotate_left
                        · show Act.put _ (some 51) _ = _
                          simp only [Act.put, List.setIfInBounds_toArray, List.set_cons_zero, List.set_cons_succ, i64_w, i32_w]
                          rfl
                        refine pure_ (i := 7) (N := some 52) (v := ?_) (a' := ?_) #[true, true, true, true, true, true, true, true] rfl rfl (any_of HT_.out (by kernel_rfl)) (fun _ _ _ h => h) (Or.inl ⟨by rfl, ?_⟩) ?_ ?_
                        rotate_left
                        · intro w'
                          go_simp
                          with_reducible rfl
                        rotate_left
                        · simp only [Act.put, List.setIfInBounds_toArray, List.set_cons_zero, List.set_cons_succ, i64_w, i32_w]
                          rfl
                        refine done_ (done_of HT_.out (by kernel_rfl)) ?_
                        try go_wp2
                        go_ret
                        exact ⟨by first | rfl | (simp [errW_none, errW_some] <;> rfl) | (simp [*, errW_none, errW_some] <;> rfl), by repeat (first | (with_reducible first | exact HB.out | apply below_alloc | apply pw_below_drewN | apply below_drew1 | refine below_set ?_ GE204.out) | exact HB.out)⟩
                    · rw [if_neg c22] at H
                      exact absurd H (by simp)
                  · rw [if_neg c21] at H
                    have c21b0 : decide (x3_3 < (l0_1.length : Int)) = false := decide_eq_false c21
                    clear c21
                    replace H := Option.bind_eq_some_iff.mp H
                    obtain ⟨t212, A310, H⟩ := H
                    replace H : (some t212) = some r := H
                    have A31 := Aside0.mk A310
                    clear A310
                    obtain rfl := Option.some.inj H
                    simp only [Option.some.injEq, Prod.mk.injEq] at H
                    obtain ⟨rfl⟩ := H
                    have hcz32_0 : wr.cell? ⟨gb204, 0, none⟩ = some (.slice A0_0 l0_0.length c0_0) := (blk_cell BK204.out 0).trans rfl
                    have hcz32_1 : wr.cell? ⟨gb204, 1, none⟩ = some (.slice A0_1 l0_1.length c0_1) := (blk_cell BK204.out 1).trans rfl
                    have hfz32_0 := blk_frozen BK204.out 0
                    have hfz32_1 := blk_frozen BK204.out 1
                    go_wp2_with (first | ((with_reducible refine gate_callee (f := 17) rfl ?_); refine goesL_ (some 54) rfl rfl Try.func17 (by kernel_rfl) rfl #[.agg #[.slice A0_0 l0_0.length c0_0, .slice A0_1 l0_1.length c0_1]] rfl (by (try simp only [List.map_toArray, List.map_cons, List.map_nil]); first | done | rfl | (simp only [List.length_drop, List.length_take]; rfl)) ?_; (with_reducible refine (spec_l3Apart.calls k3 _ _ l0_0 _ _ l0_1 t212 _ ?side1 ?side2 ?side3 ?side4 A31.out).mono ?_); (case side1 => repeat (first | exact (Kd.C_below HR0_0.out HB.out) | (with_reducible refine Kd.C_alloc ?_ _) | (with_reducible refine Kd.C_drewN ?_ _) | (with_reducible refine Kd.C_drew ?_))); (case side2 => exact HC0_0.out); (case side3 => repeat (first | exact (Kd.C_below HR0_1.out HB.out) | (with_reducible refine Kd.C_alloc ?_ _) | (with_reducible refine Kd.C_drewN ?_ _) | (with_reducible refine Kd.C_drew ?_))); (case side4 => exact HC0_1.out); rintro e w33 ⟨rfl, hb⟩; refine ⟨_, rfl, ?_⟩; have n0_ := Aside0.mk (blk_below (g := gb204) (o := .cells #[.slice A0_0 l0_0.length c0_0, .slice A0_1 l0_1.length c0_1] 31 (0, 0)) (by (with_reducible repeat (first | refine blk_drewN ?_ _ | refine blk_drew ?_ | refine blk_alloc ?_ _)); exact BK204.out) hb); have n1_ := Aside0.mk (below_step (by repeat (first | (with_reducible first | exact HB.out | apply below_alloc | apply pw_below_drewN | apply below_drew1 | refine below_set ?_ GE204.out) | exact HB.out)) hb); clear BK204; clear HB; have BK204 := n0_; have HB := n1_; clear n0_ n1_; (try clear hb); (try clear hb2); (try clear hk); (try clear hi)))
                    go_ret
                    exact ⟨by first | rfl | (simp [errW_none, errW_some] <;> rfl) | (simp [*, errW_none, errW_some] <;> rfl), by repeat (first | (with_reducible first | exact HB.out | apply below_alloc | apply pw_below_drewN | apply below_drew1 | refine below_set ?_ GE204.out) | exact HB.out)⟩
end Go.Proofs.Ytedodaifpekahaa.P

end
section

namespace Go.Proofs.Ytedodaifpekahaa.P
open Go.RowKit Go.Proofs.YtedodaifpekahaaW.PrintWords Go.Proofs.YtedodaifpekahaaW.PrintLast Go.Proofs.YtedodaifpekahaaW.PrintMore
attribute [local go_sem] max2_int min2_int max_two min_two max_three min_three max_four min_four
set_option linter.unusedVariables false
set_option linter.unusedSimpArgs false
set_option maxHeartbeats 8000000 in
set_option maxRecDepth 100000 in
theorem laws_toIntS.calls (k : Nat) (A0 : Option Addr) (c0 : Nat) (l0 : List Int) (r : List Int) (w : World) (hr0 : Kd.C (Kd.int .i64) w A0 l0.length l0) (hc0 : l0.length ≤ c0) (h : laws_toIntS.f k l0 = some r) :
    Calls Try.prog 58 #[.slice A0 l0.length c0] w fun e w' => ∃ v0_ : Value, e = .returned (v0_) ∧ Kd.R (Kd.int .i64) 3 w' w.heap.size (fun _ => True) v0_ r ∧ Below w.heap.size w w' := by
  have HR0 := Aside0.mk hr0
  have HC0 := Aside0.mk hc0
  clear hr0 hc0
  have HB := Aside0.mk (Below.refl w.heap.size w)
  have H : (if 0 ≤ (l0.length : Int) then (if ((l0.length : Int) : Int).toNat ≤ 35184372088832 then (laws_toIntS.l0 k l0 (List.replicate ((l0.length : Int) : Int).toNat 0) 0) else (none)) else (none)) = some r := h
  clear h
  by_cases c2 : 0 ≤ (l0.length : Int)
  · rw [if_pos c2] at H
    have c2b0 := eq_true c2
    have c2b1 : decide (0 ≤ (l0.length : Int)) = true := decide_eq_true c2
    clear c2
    by_cases c3 : ((l0.length : Int) : Int).toNat ≤ 35184372088832
    · rw [if_pos c3] at H
      have c3b0 := eq_true c3
      have c3b1 : decide (((l0.length : Int) : Int).toNat ≤ 35184372088832) = true := decide_eq_true c3
      clear c3
      obtain ⟨y213, hy213⟩ : ∃ y_ : List Int, y_ = (List.replicate ((l0.length : Int) : Int).toNat 0) := ⟨_, rfl⟩
      replace H : (laws_toIntS.l0 k l0 y213 0) = some r := by first | (rw [hy213]; with_reducible exact H) | (have H2_ := (Option.bind_some _ _).symm.trans H; rw [hy213]; with_reducible exact H2_) | (have H2_ := (Option.bind_some _ _).symm.trans H; with_reducible exact H2_) | with_reducible exact H | (rw [hy213]; exact H) | exact H
      have Ny213 := Aside0.mk hy213
      clear hy213
      have H' := Aside0.mk H
      clear H
      go_enter Try.func58, Try.ntmps58
      go_wp2_with (first | ((with_reducible refine gate_dst (N := 7) rfl ?_); refine Kd.R_make (Kd.int .i64) _ 3 rfl (N := 7) rfl 41 _ _ rfl (l0.length : Int) rfl rfl Try.underlying41 (.int .i64 0) 8 info3 rfl (by decide) (by omega) 0 (ok := fun _ => True) (okp := fun _ => True) rfl (fun _ hk => hk) trivial (of_decide_eq_true (by first | (with_reducible assumption) | assumption)) (Nat.le_trans (Nat.mul_le_mul_right _ (of_decide_eq_true (by first | (with_reducible assumption) | assumption) : (l0.length : Int).toNat ≤ 35184372088832)) (by omega)) (Below.refl _ _) (Nat.le_refl _) ?_; intro v214 w4 ho5 hb hg_ hnew_; clear hg_ hnew_; (first | rw [← Ny213.out] at ho5 | (simp only [Int.reduceToNat] at ho5; rw [← Ny213.out] at ho5)); have n0_ := Aside0.mk (Kd.R_lower ho5 (below_size (by repeat (first | (with_reducible first | exact HB.out | apply below_alloc | apply pw_below_drewN | apply below_drew1) | exact HB.out)))); have n1_ := Aside0.mk (below_step (by repeat (first | (with_reducible first | exact HB.out | apply below_alloc | apply pw_below_drewN | apply below_drew1) | exact HB.out)) hb); clear HB; have HO215 := n0_; have HB := n1_; clear n0_ n1_; clear hb ho5))
      go_loopg [4] k (fun kq v4 w' => ∃ (x3_1 : List Int) (x4_1 : Int), v4 = .int .i64 x4_1 ∧ Aside0 (laws_toIntS.l0 kq l0 x3_1 x4_1 = some r) ∧ Aside0 (kq ≤ k) ∧ Aside0 (Kd.R (Kd.int .i64) 3 w' w.heap.size (fun _ => True) v214 x3_1) ∧ Aside0 (Below w.heap.size w w'))
      case atStart => exact ⟨(y213), (0), (by first | rfl | (simp; done) | (simp [*]; done)), H', ⟨Nat.le_refl _⟩, ⟨by (with_reducible repeat (first | apply Kd.R_alloc | apply Kd.R_drewN | apply Kd.R_drew)); exact HO215.out⟩, ⟨by repeat (first | (with_reducible first | exact HB.out | apply below_alloc | apply pw_below_drewN | apply below_drew1) | exact HB.out)⟩⟩
      case round =>
        clear H'
        try clear c2
        try clear c2b0
        try clear c2b1
        try clear p2
        try clear c3
        try clear c3b0
        try clear c3b1
        try clear c5
        obtain ⟨x3_1, x4_1, rfl, HA, HK1, HO_3, HB⟩ := hrel
        cases gk with
        | zero => exact absurd HA.out (by simp [laws_toIntS.l0])
        | succ k1 =>
          have H := HA.out
          clear HA
          simp only [laws_toIntS.l0] at H
          by_cases c6 : x4_1 < (l0.length : Int)
          · rw [if_pos c6] at H
            have c6b0 : decide (x4_1 < (l0.length : Int)) = true := decide_eq_true c6
            clear c6
            by_cases c7 : 0 ≤ x4_1
            · rw [if_pos c7] at H
              have c7b0 : decide (0 ≤ x4_1) = true := decide_eq_true c7
              clear c7
              by_cases c8 : x4_1 < (x3_1.length : Int)
              · rw [if_pos c8] at H
                have c8b0 : decide (x4_1 < (x3_1.length : Int)) = true := decide_eq_true c8
                clear c8
                obtain ⟨y217, hy217⟩ : ∃ y_ : List Int, y_ = (x3_1.set (x4_1 : Int).toNat (rd l0 x4_1)) := ⟨_, rfl⟩
                replace H : (laws_toIntS.l0 k1 l0 y217 (wrap64 (x4_1 + 1))) = some r := by first | (rw [hy217]; with_reducible exact H) | (have H2_ := (Option.bind_some _ _).symm.trans H; rw [hy217]; with_reducible exact H2_) | (have H2_ := (Option.bind_some _ _).symm.trans H; with_reducible exact H2_) | with_reducible exact H | (rw [hy217]; exact H) | exact H
                have Ny217 := Aside0.mk hy217
                clear hy217
                have H' := Aside0.mk H
                clear H
                have p216 : 0 ≤ (x4_1 : Int) := of_decide_eq_true (by first | (with_reducible assumption) | assumption)
                have q216 : x4_1 < (l0.length : Int) := of_decide_eq_true (by first | (with_reducible assumption) | assumption)
                obtain ⟨ad216, e216, hx216_0⟩ := Kd.at_int HR0.out x4_1 p216 q216
                cases e216
                replace hx216_0 := (HB.out.cell (World.block_lt_of_cell? w _ hx216_0)).trans hx216_0
                replace p216 := eq_true p216
                replace q216 := eq_true q216
                have p9 : 0 ≤ (x4_1 : Int) := of_decide_eq_true (by first | (with_reducible assumption) | assumption)
                have q9 : (x4_1 : Int) < ((x3_1.length : Int) : Int) := of_decide_eq_true (by first | (with_reducible assumption) | assumption)
                obtain ⟨go9, co9, eo9, gb9, gl9, cl9, HG9⟩ := Kd.R_form HO_3.out (by omega)
                (first | cases eo9 | (injection eo9 with ea_ en_ ec_; (first | subst ea_ | (injection ea_ with ea_; subst ea_)); subst ec_; clear en_))
                have GB9 := Aside0.mk gb9
                have GG9 := Aside0.mk HG9
                clear gb9 gl9 HG9
                obtain ⟨hx9_0, hf9_0⟩ := Kd.R_celln 0 HO_3.out (x4_1 : Int) p9 q9
                replace p9 := eq_true p9
                replace q9 := eq_true q9
                have HP10 := Kd.R_putg HO_3.out (x4_1 : Int) (rd l0 x4_1)
                go_wp2_with (first | ((with_reducible refine gate_store (t := 3) (p := 20) rfl ?_); refine store_event (t := 3) (p := 20) (v := ?vo_w11) (w1 := (wr.setCell ⟨go9, (x4_1 : Int).toNat, none⟩ (.int .i64 (rd l0 x4_1)))) ?hg ?ho ?hn ?hr ?_; (case ho => rfl); (case hg => rfl); (case hn => rfl); (case hr => first | (go_simp; done) | (go_simp; rfl)); intro w11 hw; have hg : wr.grownBy w11 (some go9) := (by rw [hw]; exact HP10.2); have hp_ : Kd.R (Kd.int .i64) 3 w11 w.heap.size (fun _ => True) (.slice (some ⟨go9, 0, none⟩) x3_1.length co9) y217 := (by rw [hw, Ny217.out]; exact HP10.1); clear HP10; have n0_ := Aside0.mk (hp_); have n1_ := Aside0.mk ((by rw [hw]; exact below_set (HB.out) GB9.out : Below w.heap.size w w11)); clear HO_3; clear HB; have HO_3 := n0_; have HB := n1_; clear n0_ n1_; clear hg hw hp_))
                go_roundg k1
                case measure => have := HK1.out; omega
                case rel => exact ⟨(y217), (wrap64 (x4_1 + 1)), (by first | rfl | (simp; done) | (simp [*]; done)), H', ⟨by have := HK1.out; omega⟩, ⟨by (with_reducible repeat (first | apply Kd.R_alloc | apply Kd.R_drewN | apply Kd.R_drew)); exact HO_3.out⟩, ⟨by repeat (first | (with_reducible first | exact HB.out | apply below_alloc | apply pw_below_drewN | apply below_drew1) | exact HB.out)⟩⟩
              · rw [if_neg c8] at H
                exact absurd H (by simp)
            · rw [if_neg c7] at H
              exact absurd H (by simp)
          · rw [if_neg c6] at H
            have c6b0 : decide (x4_1 < (l0.length : Int)) = false := decide_eq_false c6
            clear c6
            obtain rfl := Option.some.inj H
            simp only [Option.some.injEq, Prod.mk.injEq] at H
            obtain ⟨rfl⟩ := H
            go_wp2
            go_ret
            exact ⟨_, by first | rfl | (simp [errW_none, errW_some] <;> rfl) | (simp [*, errW_none, errW_some] <;> rfl), by (with_reducible repeat (first | apply Kd.R_alloc | apply Kd.R_drewN | apply Kd.R_drew)); exact HO_3.out, by repeat (first | (with_reducible first | exact HB.out | apply below_alloc | apply pw_below_drewN | apply below_drew1) | exact HB.out)⟩
    · rw [if_neg c3] at H
      exact absurd H (by simp)
  · rw [if_neg c2] at H
    exact absurd H (by simp)
end Go.Proofs.Ytedodaifpekahaa.P

end
section

namespace Go.Proofs.Ytedodaifpekahaa.P
open Go.RowKit Go.Proofs.YtedodaifpekahaaW.PrintWords Go.Proofs.YtedodaifpekahaaW.PrintLast Go.Proofs.YtedodaifpekahaaW.PrintMore
attribute [local go_sem] max2_int min2_int max_two min_two max_three min_three max_four min_four
set_option linter.unusedVariables false
set_option linter.unusedSimpArgs false
set_option maxHeartbeats 8000000 in
set_option maxRecDepth 100000 in
theorem laws_toClass.calls (k : Nat) (a0_0 : Int) (A0_1 : Option Addr) (c0_1 : Nat) (l0_1 : List Int) (r1 : Int) (r2 : List Int) (w : World) (hr0_1 : Kd.C (Kd.int .i64) w A0_1 l0_1.length l0_1) (hc0_1 : l0_1.length ≤ c0_1) (h : laws_toClass.f k a0_0 l0_1 = some (r1, r2)) :
    Calls Try.prog 40 #[.agg #[.int .i64 a0_0, .slice A0_1 l0_1.length c0_1]] w fun e w' => ∃ v1_ : Value, e = .returned (.agg #[.int .i64 r1, v1_]) ∧ Kd.R (Kd.int .i64) 3 w' w.heap.size (fun _ => True) v1_ r2 ∧ Below w.heap.size w w' := by
  have hu58 := Try.underlying58
  have hu76 := Try.underlying76
  have HR0_1 := Aside0.mk hr0_1
  have HC0_1 := Aside0.mk hc0_1
  clear hr0_1 hc0_1
  have HB := Aside0.mk (Below.refl w.heap.size w)
  have H : ((laws_toIntS.f k l0_1).bind fun t221 => (some (a0_0, t221))) = some (r1, r2) := h
  clear h
  replace H := Option.bind_eq_some_iff.mp H
  obtain ⟨t221, A20, H⟩ := H
  replace H : (some (a0_0, t221)) = some (r1, r2) := H
  have A2 := Aside0.mk A20
  clear A20
  simp only [Option.some.injEq, Prod.mk.injEq] at H
  obtain ⟨rfl, rfl⟩ := H
  go_enter Try.func40, Try.ntmps40
  go_wp2_with (first | ((with_reducible refine gate_dst (N := 1) rfl ?_); refine box_event ?hg (N := 1) ?hd (cs := #[.int .i64 a0_0, .slice A0_1 l0_1.length c0_1]) (t := 58) ?hr ?_; (case hd => rfl); (case hg => rfl); (case hr => first | (go_simp; done) | (go_simp; rfl)); intro gb218 hg w3 hbox hb; have n0_ := Aside0.mk (below_step (by repeat (first | (with_reducible first | exact HB.out | apply below_alloc | apply pw_below_drewN | apply below_drew1) | exact HB.out)) hb); have n1_ := Aside0.mk (hbox); have n2_ := Aside0.mk ((by rw [hg]; exact (below_size (by repeat (first | (with_reducible first | exact HB.out | apply below_alloc | apply pw_below_drewN | apply below_drew1) | exact HB.out))) : w.heap.size ≤ gb218)); have n3_ := Aside0.mk ((by rw [hg]; exact (below_size (by repeat (first | (with_reducible first | exact HB.out | apply below_alloc | apply pw_below_drewN | apply below_drew1) | exact HB.out))) : w.heap.size ≤ gb218)); clear HB; have HB := n0_; have BK218 := n1_; have GW218 := n2_; have GE218 := n3_; clear n0_ n1_ n2_ n3_; clear hb hbox hg) | ((with_reducible refine gate_dst (N := 2) rfl ?_); refine box_event ?hg (N := 2) ?hd (cs := #[.int .i64 0, .slice none 0 0]) (t := 76) ?hr ?_; (case hd => rfl); (case hg => rfl); (case hr => first | (go_simp; done) | (go_simp; rfl)); intro gb219 hg w4 hbox hb; have n0_ := Aside0.mk (blk_below (g := gb218) (o := .cells #[.int .i64 a0_0, .slice A0_1 l0_1.length c0_1] 58 (0, 0)) (by (with_reducible repeat (first | refine blk_drewN ?_ _ | refine blk_drew ?_ | refine blk_alloc ?_ _)); exact BK218.out) hb); have n1_ := Aside0.mk (below_step (by repeat (first | (with_reducible first | exact HB.out | apply below_alloc | apply pw_below_drewN | apply below_drew1 | refine below_set ?_ GE218.out) | exact HB.out)) hb); have n2_ := Aside0.mk (hbox); have n3_ := Aside0.mk ((by rw [hg]; exact (below_size (by repeat (first | (with_reducible first | exact HB.out | apply below_alloc | apply pw_below_drewN | apply below_drew1 | refine below_set ?_ GE218.out) | exact HB.out))) : w.heap.size ≤ gb219)); have n4_ := Aside0.mk ((by rw [hg]; exact (below_size (by repeat (first | (with_reducible first | exact HB.out | apply below_alloc | apply pw_below_drewN | apply below_drew1 | refine below_set ?_ GE218.out) | exact HB.out))) : w.heap.size ≤ gb219)); have n5_ := Aside0.mk ((by rw [hg]; exact Nat.ne_of_lt (blk_lt (g := gb218) (o := .cells #[.int .i64 a0_0, .slice A0_1 l0_1.length c0_1] 58 (0, 0)) (by (with_reducible repeat (first | refine blk_drewN ?_ _ | refine blk_drew ?_ | refine blk_alloc ?_ _)); exact BK218.out)) : gb218 ≠ gb219)); have n6_ := Aside0.mk ((by rw [hg]; exact Nat.ne_of_gt (blk_lt (g := gb218) (o := .cells #[.int .i64 a0_0, .slice A0_1 l0_1.length c0_1] 58 (0, 0)) (by (with_reducible repeat (first | refine blk_drewN ?_ _ | refine blk_drew ?_ | refine blk_alloc ?_ _)); exact BK218.out)) : gb219 ≠ gb218)); clear BK218; clear HB; have BK218 := n0_; have HB := n1_; have BK219 := n2_; have GW219 := n3_; have GE219 := n4_; have NB218_219 := n5_; have NB219_218 := n6_; clear n0_ n1_ n2_ n3_ n4_ n5_ n6_; clear hb hbox hg) | ((with_reducible refine gate_dst (N := 3) rfl ?_); refine box_event ?hg (N := 3) ?hd (cs := #[.int .i64 0, .slice none 0 0]) (t := 76) ?hr ?_; (case hd => rfl); (case hg => rfl); (case hr => first | (go_simp; done) | (go_simp; rfl)); intro gb220 hg w5 hbox hb; have n0_ := Aside0.mk (blk_below (g := gb218) (o := .cells #[.int .i64 a0_0, .slice A0_1 l0_1.length c0_1] 58 (0, 0)) (by (with_reducible repeat (first | refine blk_drewN ?_ _ | refine blk_drew ?_ | refine blk_alloc ?_ _)); exact BK218.out) hb); have n1_ := Aside0.mk (blk_below (g := gb219) (o := .cells #[.int .i64 0, .slice none 0 0] 76 (0, 0)) (by (with_reducible repeat (first | refine blk_drewN ?_ _ | refine blk_drew ?_ | refine blk_alloc ?_ _)); exact BK219.out) hb); have n2_ := Aside0.mk (below_step (by repeat (first | (with_reducible first | exact HB.out | apply below_alloc | apply pw_below_drewN | apply below_drew1 | refine below_set ?_ GE218.out | refine below_set ?_ GE219.out) | exact HB.out)) hb); have n3_ := Aside0.mk (hbox); have n4_ := Aside0.mk ((by rw [hg]; exact (below_size (by repeat (first | (with_reducible first | exact HB.out | apply below_alloc | apply pw_below_drewN | apply below_drew1 | refine below_set ?_ GE218.out | refine below_set ?_ GE219.out) | exact HB.out))) : w.heap.size ≤ gb220)); have n5_ := Aside0.mk ((by rw [hg]; exact (below_size (by repeat (first | (with_reducible first | exact HB.out | apply below_alloc | apply pw_below_drewN | apply below_drew1 | refine below_set ?_ GE218.out | refine below_set ?_ GE219.out) | exact HB.out))) : w.heap.size ≤ gb220)); have n6_ := Aside0.mk ((by rw [hg]; exact Nat.ne_of_lt (blk_lt (g := gb218) (o := .cells #[.int .i64 a0_0, .slice A0_1 l0_1.length c0_1] 58 (0, 0)) (by (with_reducible repeat (first | refine blk_drewN ?_ _ | refine blk_drew ?_ | refine blk_alloc ?_ _)); exact BK218.out)) : gb218 ≠ gb220)); have n7_ := Aside0.mk ((by rw [hg]; exact Nat.ne_of_gt (blk_lt (g := gb218) (o := .cells #[.int .i64 a0_0, .slice A0_1 l0_1.length c0_1] 58 (0, 0)) (by (with_reducible repeat (first | refine blk_drewN ?_ _ | refine blk_drew ?_ | refine blk_alloc ?_ _)); exact BK218.out)) : gb220 ≠ gb218)); have n8_ := Aside0.mk ((by rw [hg]; exact Nat.ne_of_lt (blk_lt (g := gb219) (o := .cells #[.int .i64 0, .slice none 0 0] 76 (0, 0)) (by (with_reducible repeat (first | refine blk_drewN ?_ _ | refine blk_drew ?_ | refine blk_alloc ?_ _)); exact BK219.out)) : gb219 ≠ gb220)); have n9_ := Aside0.mk ((by rw [hg]; exact Nat.ne_of_gt (blk_lt (g := gb219) (o := .cells #[.int .i64 0, .slice none 0 0] 76 (0, 0)) (by (with_reducible repeat (first | refine blk_drewN ?_ _ | refine blk_drew ?_ | refine blk_alloc ?_ _)); exact BK219.out)) : gb220 ≠ gb219)); clear BK218; clear BK219; clear HB; have BK218 := n0_; have BK219 := n1_; have HB := n2_; have BK220 := n3_; have GW220 := n4_; have GE220 := n5_; have NB218_220 := n6_; have NB220_218 := n7_; have NB219_220 := n8_; have NB220_219 := n9_; clear n0_ n1_ n2_ n3_ n4_ n5_ n6_ n7_ n8_ n9_; clear hb hbox hg; have hnb6 := NB218_219.out; have hnc6 := NB219_218.out; have hnb7 := NB218_220.out; have hnc7 := NB220_218.out; have hcz8_0 : w5.cell? ⟨gb218, 0, none⟩ = some (.int .i64 a0_0) := (blk_cell BK218.out 0).trans rfl; have hcz8_1 : w5.cell? ⟨gb218, 1, none⟩ = some (.slice A0_1 l0_1.length c0_1) := (blk_cell BK218.out 1).trans rfl; have hfz8_0 := blk_frozen BK218.out 0; have hfz8_1 := blk_frozen BK218.out 1; have hnb9 := NB220_219.out; have hnc9 := NB219_220.out; have hcz10_0 : w5.cell? ⟨gb220, 0, none⟩ = some (.int .i64 0) := (blk_cell BK220.out 0).trans rfl; have hcz10_1 : w5.cell? ⟨gb220, 1, none⟩ = some (.slice none 0 0) := (blk_cell BK220.out 1).trans rfl; have hfz10_0 := blk_frozen BK220.out 0; have hfz10_1 := blk_frozen BK220.out 1) | ((with_reducible refine gate_callee (f := 58) rfl ?_); refine goesL_ (some 9) rfl rfl Try.func58 (by kernel_rfl) rfl #[.slice A0_1 l0_1.length c0_1] rfl (by (try simp only [List.map_toArray, List.map_cons, List.map_nil]); first | done | rfl | (simp only [List.length_drop, List.length_take]; rfl)) ?_; (with_reducible refine (laws_toIntS.calls k _ _ l0_1 t221 _ ?side1 ?side2 A2.out).mono ?_); (case side1 => exact Kd.C_below HR0_1.out (by repeat (first | (with_reducible first | exact HB.out | apply below_alloc | apply pw_below_drewN | apply below_drew1 | refine below_set ?_ GE218.out | refine below_set ?_ GE219.out | refine below_set ?_ GE220.out) | exact HB.out))); (case side2 => exact HC0_1.out); rintro e w11 ⟨v222, rfl, ho0, hb⟩; refine ⟨_, rfl, ?_⟩; have n0_ := Aside0.mk (Kd.R_lower ho0 (below_size (by repeat (first | (with_reducible first | exact HB.out | apply below_alloc | apply pw_below_drewN | apply below_drew1 | refine below_set ?_ GE218.out | refine below_set ?_ GE219.out | refine below_set ?_ GE220.out) | exact HB.out)))); have n1_ := Aside0.mk (blk_below (g := gb218) (o := .cells #[.int .i64 a0_0, .slice A0_1 l0_1.length c0_1] 58 (0, 0)) (by (with_reducible repeat (first | refine blk_drewN ?_ _ | refine blk_drew ?_ | refine blk_alloc ?_ _)); refine blk_far ?_ NB218_220.out _; (with_reducible repeat (first | refine blk_drewN ?_ _ | refine blk_drew ?_ | refine blk_alloc ?_ _)); exact BK218.out) hb); have n2_ := Aside0.mk (blk_below (g := gb219) (o := .cells #[.int .i64 0, .slice none 0 0] 76 (0, 0)) (by (with_reducible repeat (first | refine blk_drewN ?_ _ | refine blk_drew ?_ | refine blk_alloc ?_ _)); refine blk_far ?_ NB219_220.out _; (with_reducible repeat (first | refine blk_drewN ?_ _ | refine blk_drew ?_ | refine blk_alloc ?_ _)); exact BK219.out) hb); have n3_ := Aside0.mk (blk_below (g := gb220) (o := .cells #[.int .i64 a0_0, .slice none 0 0] 76 (0, 0)) (by (with_reducible repeat (first | refine blk_drewN ?_ _ | refine blk_drew ?_ | refine blk_alloc ?_ _)); refine blk_put (cs := #[.int .i64 0, .slice none 0 0]) ?_ 0 _ rfl; (with_reducible repeat (first | refine blk_drewN ?_ _ | refine blk_drew ?_ | refine blk_alloc ?_ _)); exact BK220.out) hb); have n4_ := Aside0.mk (below_step (by repeat (first | (with_reducible first | exact HB.out | apply below_alloc | apply pw_below_drewN | apply below_drew1 | refine below_set ?_ GE218.out | refine below_set ?_ GE219.out | refine below_set ?_ GE220.out) | exact HB.out)) hb); clear BK218; clear BK219; clear BK220; clear HB; have HO223 := n0_; have BK218 := n1_; have BK219 := n2_; have BK220 := n3_; have HB := n4_; clear n0_ n1_ n2_ n3_ n4_; (try clear hb); (try clear hb2); (try clear hk); (try clear hi); (try clear ho0); obtain ⟨Ao12, co12, eo12⟩ := Kd.R_slice HO223.out; subst eo12; have hcz13_0 : w11.cell? ⟨gb220, 0, none⟩ = some (.int .i64 a0_0) := (blk_cell BK220.out 0).trans rfl; have hcz13_1 : w11.cell? ⟨gb220, 1, none⟩ = some (.slice none 0 0) := (blk_cell BK220.out 1).trans rfl; have hfz13_0 := blk_frozen BK220.out 0; have hfz13_1 := blk_frozen BK220.out 1; have hcz14_0 : w11.cell? ⟨gb219, 0, none⟩ = some (.int .i64 0) := (blk_cell BK219.out 0).trans rfl; have hcz14_1 : w11.cell? ⟨gb219, 1, none⟩ = some (.slice none 0 0) := (blk_cell BK219.out 1).trans rfl; have hfz14_0 := blk_frozen BK219.out 0; have hfz14_1 := blk_frozen BK219.out 1))
  refine bodyPost_ret (results_cell_row rfl _ _ gb219 76 #[.int .i64 a0_0, .slice Ao12 t221.length co12] (0, 0) _ rfl (by (with_reducible repeat (first | refine blk_drewN ?_ _ | refine blk_drew ?_ | refine blk_alloc ?_ _)); refine blk_put (cs := #[.int .i64 a0_0, .slice none 0 0]) ?_ 1 _ rfl; (with_reducible repeat (first | refine blk_drewN ?_ _ | refine blk_drew ?_ | refine blk_alloc ?_ _)); refine blk_put (cs := #[.int .i64 0, .slice none 0 0]) ?_ 0 _ rfl; (with_reducible repeat (first | refine blk_drewN ?_ _ | refine blk_drew ?_ | refine blk_alloc ?_ _)); refine blk_far ?_ NB219_220.out _; (with_reducible repeat (first | refine blk_drewN ?_ _ | refine blk_drew ?_ | refine blk_alloc ?_ _)); exact BK219.out) Try.underlying76 rfl (by kernel_rfl)) rfl ?_
  exact ⟨_, by first | rfl | (simp [errW_none, errW_some] <;> rfl) | (simp [*, errW_none, errW_some] <;> rfl), by (with_reducible repeat (first | apply Kd.R_alloc | apply Kd.R_drewN | apply Kd.R_drew)); exact Kd.R_mono (Kd.R_far (p := ⟨gb219, 1, none⟩) (Kd.R_far (p := ⟨gb219, 0, none⟩) (Kd.R_far (p := ⟨gb220, 1, none⟩) (Kd.R_types (Kd.R_types HO223.out BK220.out (by decide)) BK219.out (by decide)) (fun _ hk => hk.1.2) (.slice Ao12 t221.length co12)) (fun _ hk => hk.2) (.int .i64 a0_0)) (fun _ hk => hk.2) (.slice Ao12 t221.length co12)) (fun _ hk => trivial), by repeat (first | (with_reducible first | exact HB.out | apply below_alloc | apply pw_below_drewN | apply below_drew1 | refine below_set ?_ GE218.out | refine below_set ?_ GE219.out | refine below_set ?_ GE220.out) | exact HB.out)⟩
end Go.Proofs.Ytedodaifpekahaa.P

end
section

namespace Go.Proofs.Ytedodaifpekahaa.P
open Go.RowKit Go.Proofs.YtedodaifpekahaaW.PrintWords Go.Proofs.YtedodaifpekahaaW.PrintLast Go.Proofs.YtedodaifpekahaaW.PrintMore
attribute [local go_sem] max2_int min2_int max_two min_two max_three min_three max_four min_four
set_option linter.unusedVariables false
set_option linter.unusedSimpArgs false
set_option maxHeartbeats 8000000 in
set_option maxRecDepth 100000 in
theorem laws_toClassS.calls (k : Nat) (A0 : Option Addr) (c0 : Nat) (l0 : List (S58)) (r : List (S76)) (w : World) (hr0 : Kd.C k58 w A0 l0.length l0) (hc0 : l0.length ≤ c0) (h : laws_toClassS.f k l0 = some r) :
    Calls Try.prog 18 #[.slice A0 l0.length c0] w fun e w' => ∃ v0_ : Value, e = .returned (v0_) ∧ Kd.S k76 76 w' w.heap.size (fun _ => True) v0_ r ∧ Below w.heap.size w w' := by
  have hu58 := Try.underlying58
  have hu76 := Try.underlying76
  have HR0 := Aside0.mk hr0
  have HC0 := Aside0.mk hc0
  clear hr0 hc0
  have HB := Aside0.mk (Below.refl w.heap.size w)
  have H : (if 0 ≤ (l0.length : Int) then (if ((l0.length : Int) : Int).toNat ≤ 8796093022208 then (laws_toClassS.l0 k l0 (List.replicate ((l0.length : Int) : Int).toNat z76) 0) else (none)) else (none)) = some r := h
  clear h
  by_cases c2 : 0 ≤ (l0.length : Int)
  · rw [if_pos c2] at H
    have c2b0 := eq_true c2
    have c2b1 : decide (0 ≤ (l0.length : Int)) = true := decide_eq_true c2
    clear c2
    by_cases c3 : ((l0.length : Int) : Int).toNat ≤ 8796093022208
    · rw [if_pos c3] at H
      have c3b0 := eq_true c3
      have c3b1 : decide (((l0.length : Int) : Int).toNat ≤ 8796093022208) = true := decide_eq_true c3
      clear c3
      obtain ⟨y224, hy224⟩ : ∃ y_ : List (S76), y_ = (List.replicate ((l0.length : Int) : Int).toNat z76) := ⟨_, rfl⟩
      replace H : (laws_toClassS.l0 k l0 y224 0) = some r := by first | (rw [hy224]; with_reducible exact H) | (have H2_ := (Option.bind_some _ _).symm.trans H; rw [hy224]; with_reducible exact H2_) | (have H2_ := (Option.bind_some _ _).symm.trans H; with_reducible exact H2_) | with_reducible exact H | (rw [hy224]; exact H) | exact H
      have Ny224 := Aside0.mk hy224
      clear hy224
      have H' := Aside0.mk H
      clear H
      go_enter Try.func18, Try.ntmps18
      go_wp2_with (first | ((with_reducible refine gate_dst (N := 7) rfl ?_); refine Kd.S_make k76 _ 76 rfl (N := 7) rfl 28 _ _ rfl (l0.length : Int) rfl rfl Try.underlying28 (.agg #[(.int .i64 0), (.slice none 0 0)]) 32 info76 rfl (by decide) (by omega) z76 (ok := fun _ => True) (okp := fun _ => True) (k76_mkM _ _ _ z76 (Kd.R_nil _ _ _ _ _)) (fun _ hk => hk) trivial (of_decide_eq_true (by first | (with_reducible assumption) | assumption)) (Nat.le_trans (Nat.mul_le_mul_right _ (of_decide_eq_true (by first | (with_reducible assumption) | assumption) : (l0.length : Int).toNat ≤ 8796093022208)) (by omega)) (Below.refl _ _) (Nat.le_refl _) ?_; intro v225 w4 ho5 hb hg_ hnew_; clear hg_ hnew_; (first | rw [← Ny224.out] at ho5 | (simp only [Int.reduceToNat] at ho5; rw [← Ny224.out] at ho5)); have n0_ := Aside0.mk (Kd.S_lower ho5 (below_size (by repeat (first | (with_reducible first | exact HB.out | apply below_alloc | apply pw_below_drewN | apply below_drew1) | exact HB.out)))); have n1_ := Aside0.mk (below_step (by repeat (first | (with_reducible first | exact HB.out | apply below_alloc | apply pw_below_drewN | apply below_drew1) | exact HB.out)) hb); clear HB; have HO226 := n0_; have HB := n1_; clear n0_ n1_; clear hb ho5))
      go_loopg [4] k (fun kq v4 w' => ∃ (x3_1 : List (S76)) (x4_1 : Int), v4 = .int .i64 x4_1 ∧ Aside0 (laws_toClassS.l0 kq l0 x3_1 x4_1 = some r) ∧ Aside0 (kq ≤ k) ∧ Aside0 (Kd.S k76 76 w' w.heap.size (fun _ => True) v225 x3_1) ∧ Aside0 (Below w.heap.size w w'))
      case atStart => exact ⟨(y224), (0), (by first | rfl | (simp; done) | (simp [*]; done)), H', ⟨Nat.le_refl _⟩, ⟨by (with_reducible repeat (first | apply Kd.S_alloc | apply Kd.S_drewN | apply Kd.S_drew)); exact HO226.out⟩, ⟨by repeat (first | (with_reducible first | exact HB.out | apply below_alloc | apply pw_below_drewN | apply below_drew1) | exact HB.out)⟩⟩
      case round =>
        clear H'
        try clear c1
        try clear c2
        try clear c2b0
        try clear c2b1
        try clear p2
        try clear c3
        try clear c3b0
        try clear c3b1
        obtain ⟨x3_1, x4_1, rfl, HA, HK1, HO_3, HB⟩ := hrel
        cases gk with
        | zero => exact absurd HA.out (by simp [laws_toClassS.l0])
        | succ k1 =>
          have H := HA.out
          clear HA
          simp only [laws_toClassS.l0] at H
          by_cases c6 : x4_1 < (l0.length : Int)
          · rw [if_pos c6] at H
            have c6b0 : decide (x4_1 < (l0.length : Int)) = true := decide_eq_true c6
            clear c6
            by_cases c7 : 0 ≤ x4_1
            · rw [if_pos c7] at H
              have c7b0 : decide (0 ≤ x4_1) = true := decide_eq_true c7
              clear c7
              replace H := Option.bind_eq_some_iff.mp H
              obtain ⟨⟨t228, t229⟩, A80, H⟩ := H
              replace H : (if x4_1 < (x3_1.length : Int) then (laws_toClassS.l0 k1 l0 (x3_1.set (x4_1 : Int).toNat (⟨t228, t229⟩ : S76)) (wrap64 (x4_1 + 1))) else (none)) = some r := H
              have A8 := Aside0.mk A80
              clear A80
              by_cases c9 : x4_1 < (x3_1.length : Int)
              · rw [if_pos c9] at H
                have c9b0 : decide (x4_1 < (x3_1.length : Int)) = true := decide_eq_true c9
                clear c9
                obtain ⟨y232, hy232⟩ : ∃ y_ : List (S76), y_ = (x3_1.set (x4_1 : Int).toNat (⟨t228, t229⟩ : S76)) := ⟨_, rfl⟩
                replace H : (laws_toClassS.l0 k1 l0 y232 (wrap64 (x4_1 + 1))) = some r := by first | (rw [hy232]; with_reducible exact H) | (have H2_ := (Option.bind_some _ _).symm.trans H; rw [hy232]; with_reducible exact H2_) | (have H2_ := (Option.bind_some _ _).symm.trans H; with_reducible exact H2_) | with_reducible exact H | (rw [hy232]; exact H) | exact H
                have Ny232 := Aside0.mk hy232
                clear hy232
                have H' := Aside0.mk H
                clear H
                have p227 : 0 ≤ (x4_1 : Int) := of_decide_eq_true (by first | (with_reducible assumption) | assumption)
                have q227 : x4_1 < (l0.length : Int) := of_decide_eq_true (by first | (with_reducible assumption) | assumption)
                obtain ⟨ad227, A227_1, c227_1, e227, hx227_0, hx227_1, hl227_1, hi227_1⟩ := at_T58 HR0.out x4_1 p227 q227
                cases e227
                replace hx227_0 := (HB.out.cell (World.block_lt_of_cell? w _ hx227_0)).trans hx227_0
                replace hx227_1 := (HB.out.cell (World.block_lt_of_cell? w _ hx227_1)).trans hx227_1
                have HR227_1 := Aside0.mk hi227_1
                have HC227_1 := Aside0.mk hl227_1
                clear hi227_1 hl227_1
                replace p227 := eq_true p227
                replace q227 := eq_true q227
                go_wp2_with (first | ((with_reducible refine gate_callee (f := 40) rfl ?_); refine goesL_ (some 20) rfl rfl Try.func40 (by kernel_rfl) rfl #[.agg #[.int .i64 ((rd_T58 l0 x4_1).f0), .slice A227_1 ((rd_T58 l0 x4_1).f1).length c227_1]] rfl (by (try simp only [List.map_toArray, List.map_cons, List.map_nil]); first | done | rfl | (simp only [List.length_drop, List.length_take]; rfl)) ?_; (with_reducible refine (laws_toClass.calls k1 ((rd_T58 l0 x4_1).f0) _ _ ((rd_T58 l0 x4_1).f1) t228 t229 _ ?side1 ?side2 A8.out).mono ?_); (case side1 => repeat (first | exact (Kd.C_below HR227_1.out HB.out) | (with_reducible refine Kd.C_alloc ?_ _) | (with_reducible refine Kd.C_drewN ?_ _) | (with_reducible refine Kd.C_drew ?_))); (case side2 => exact HC227_1.out); rintro e w11 ⟨v230, rfl, ho0, hb⟩; refine ⟨_, rfl, ?_⟩; have n0_ := Aside0.mk (Kd.S_elder' (by (with_reducible repeat (first | apply Kd.S_alloc | apply Kd.S_drewN | apply Kd.S_drew)); exact HO_3.out) (Kd.R_base ho0) hb); have n1_ := Aside0.mk (Kd.R_lower ho0 (below_size (by repeat (first | (with_reducible first | exact HB.out | apply below_alloc | apply pw_below_drewN | apply below_drew1) | exact HB.out)))); have n2_ := Aside0.mk (below_step (by repeat (first | (with_reducible first | exact HB.out | apply below_alloc | apply pw_below_drewN | apply below_drew1) | exact HB.out)) hb); clear HO_3; clear HB; have HO_3 := n0_; have HO231 := n1_; have HB := n2_; clear n0_ n1_ n2_; (try clear hb); (try clear hb2); (try clear hk); (try clear hi); (try clear ho0); have p10 : 0 ≤ (x4_1 : Int) := of_decide_eq_true (by first | (with_reducible assumption) | assumption); have q10 : (x4_1 : Int) < ((x3_1.length : Int) : Int) := of_decide_eq_true (by first | (with_reducible assumption) | assumption); obtain ⟨go10, co10, eo10, gb10, gl10, cl10, HG10⟩ := Kd.S_form HO_3.out (by omega); (first | cases eo10 | (injection eo10 with ea_ en_ ec_; (first | subst ea_ | (injection ea_ with ea_; subst ea_)); subst ec_; clear en_)); have GB10 := Aside0.mk gb10; have GG10 := Aside0.mk HG10; clear gb10 gl10 HG10; obtain ⟨_, ce10, hcl10, hM10, hcc10, hfr10, _, _⟩ := Kd.S_elem HO_3.out z76 (x4_1 : Int) p10 q10; obtain ⟨ve10_1, rfl, ge10_1⟩ := k76_openM hM10; have hx10_0 : w11.cell? ⟨go10, (x4_1 : Int).toNat * 2, none⟩ = some (.int .i64 ((rd_T76 x3_1 x4_1).f0)) := hcc10 0 _ rfl; have hx10_1 : w11.cell? ⟨go10, (x4_1 : Int).toNat * 2 + 1, none⟩ = some (ve10_1) := hcc10 1 _ rfl; have hf10_0 : w11.frozen? ⟨go10, (x4_1 : Int).toNat * 2, none⟩ = false := hfr10 0; have hf10_1 : w11.frozen? ⟨go10, (x4_1 : Int).toNat * 2 + 1, none⟩ = false := hfr10 1; clear hcl10 hcc10 hfr10 hM10; replace p10 := eq_true p10; replace q10 := eq_true q10; have n_ := Aside0.mk (Kd.S_mono (ok' := (fun k_ => some k_ ≠ (v230 : Value).ownBlock)) HO_3.out (fun k_ hk => hk.2)); clear HO_3; have HO_3 := n_; clear n_; have HX12 := Aside0.mk (show Kd.S k76 76 w11 w.heap.size (fun k_ => ((fun _ => True)) k_ ∧ ¬ ((fun k_ => some k_ = (v230 : Value).ownBlock)) k_) (.slice (some ⟨go10, 0, none⟩) x3_1.length co10) x3_1 from (by (with_reducible repeat (first | apply Kd.S_alloc | apply Kd.S_drewN | apply Kd.S_drew)); exact Kd.S_mono HO_3.out (fun k_ hk => ⟨trivial, fun e_ => hk e_⟩))); obtain ⟨oki12, ce12, hcl12, hM12, hcc12, hfr12, hoki12, hH12⟩ := Kd.S_elem HX12.out z76 (x4_1 : Int) (of_decide_eq_true (by first | (with_reducible assumption) | assumption)) (by have h_ : (x4_1 : Int) < ((x3_1.length : Int) : Int) := of_decide_eq_true (by first | (with_reducible assumption) | assumption); first | exact h_ | (have e_ := (Kd.S_reads' HO_3.out).1; omega) | simpa using h_); obtain ⟨ve12_1, rfl, ge12_1⟩ := k76_openM hM12; have HP12 := Kd.S_seg hH12 (of_decide_eq_true (by first | (with_reducible assumption) | assumption)) (by have h_ : (x4_1 : Int) < ((x3_1.length : Int) : Int) := of_decide_eq_true (by first | (with_reducible assumption) | assumption); first | exact h_ | (have e_ := (Kd.S_reads' HO_3.out).1; omega) | simpa using h_) (seg := [.int .i64 t228, v230]) (j := 0) (show 2 ≤ 2 from by decide) (x' := (⟨t228, t229⟩ : S76)) (k76_mkM _ _ _ (⟨t228, t229⟩ : S76) (Kd.R_mono (Kd.R_tight rfl (Kd.R_mono (ok' := fun k_ => ((fun _ => True)) k_ ∧ k_ ≠ go10) (Kd.R_apart' (HO231.out) (Kd.S_typed HO_3.out) (by decide)) (fun k_ hk => ⟨trivial, fun e_ => (hk.2) (by rw [e_]; rfl)⟩))) (fun _ h_ => Or.inr (h_)))) (fun _ hk => hk) (fun k_ hk_ => ((Kd.R_mono (ok' := fun k_ => ((fun _ => True)) k_ ∧ k_ ≠ go10) (Kd.R_apart' (HO231.out) (Kd.S_typed HO_3.out) (by decide)) (fun k_ hk => ⟨trivial, fun e_ => (hk.2) (by rw [e_]; rfl)⟩))).1 k_ hk_.symm); have hx12_0 := hcc12 0 _ rfl; (try simp only [show (k76).sz = 2 from rfl, Nat.mul_one, Nat.add_zero] at hx12_0); have hf12_0 := hfr12 0; (try simp only [show (k76).sz = 2 from rfl, Nat.mul_one, Nat.add_zero] at hf12_0); have hx12_1 := hcc12 1 _ rfl; (try simp only [show (k76).sz = 2 from rfl, Nat.mul_one, Nat.add_zero] at hx12_1); have hf12_1 := hfr12 1; (try simp only [show (k76).sz = 2 from rfl, Nat.mul_one, Nat.add_zero] at hf12_1); clear hcl12 hcc12 hfr12 hM12 hoki12 hH12) | ((with_reducible refine gate_store (t := 76) (p := 21) rfl ?_); refine store_event (t := 76) (p := 21) (v := ?vo_w13) (w1 := ((w11.setCell ⟨go10, (x4_1 : Int).toNat * 2, none⟩ (.int .i64 t228)).setCell ⟨go10, (x4_1 : Int).toNat * 2 + 1, none⟩ (v230))) ?hg ?ho ?hn ?hr ?_; (case ho => rfl); (case hg => rfl); (case hn => rfl); (case hr => first | (go_simp; done) | (go_simp; rfl) | (obtain ⟨_, _, rfl⟩ := Kd.R_slice HO231.out; first | (go_simp; done) | (go_simp; rfl))); intro w13 hw; have hg : w11.grownBy w13 (some go10) := (by rw [hw]; exact HP12.2); have hp_ : Kd.S k76 76 w13 w.heap.size (fun _ => True) (.slice (some ⟨go10, 0, none⟩) x3_1.length co10) y232 := (by rw [hw, Ny232.out]; exact HP12.1); clear HP12; have n0_ := Aside0.mk (hp_); have n1_ := Aside0.mk ((by rw [hw]; exact below_set (below_set (HB.out) GB10.out) GB10.out : Below w.heap.size w w13)); clear HO_3; clear HB; clear HO231; have HO_3 := n0_; have HB := n1_; clear n0_ n1_; clear hg hw hp_))
                go_roundg k1
                case measure => have := HK1.out; omega
                case rel => exact ⟨(y232), (wrap64 (x4_1 + 1)), (by first | rfl | (simp; done) | (simp [*]; done)), H', ⟨by have := HK1.out; omega⟩, ⟨by (with_reducible repeat (first | apply Kd.S_alloc | apply Kd.S_drewN | apply Kd.S_drew)); exact HO_3.out⟩, ⟨by repeat (first | (with_reducible first | exact HB.out | apply below_alloc | apply pw_below_drewN | apply below_drew1) | exact HB.out)⟩⟩
              · rw [if_neg c9] at H
                exact absurd H (by simp)
            · rw [if_neg c7] at H
              exact absurd H (by simp)
          · rw [if_neg c6] at H
            have c6b0 : decide (x4_1 < (l0.length : Int)) = false := decide_eq_false c6
            clear c6
            obtain rfl := Option.some.inj H
            simp only [Option.some.injEq, Prod.mk.injEq] at H
            obtain ⟨rfl⟩ := H
            go_wp2
            go_ret
            exact ⟨_, by first | rfl | (simp [errW_none, errW_some] <;> rfl) | (simp [*, errW_none, errW_some] <;> rfl), by (with_reducible repeat (first | apply Kd.S_alloc | apply Kd.S_drewN | apply Kd.S_drew)); exact HO_3.out, by repeat (first | (with_reducible first | exact HB.out | apply below_alloc | apply pw_below_drewN | apply below_drew1) | exact HB.out)⟩
    · rw [if_neg c3] at H
      exact absurd H (by simp)
  · rw [if_neg c2] at H
    exact absurd H (by simp)
end Go.Proofs.Ytedodaifpekahaa.P

end
section

namespace Go.Proofs.Ytedodaifpekahaa.P
open Go.RowKit Go.Proofs.YtedodaifpekahaaW.PrintWords Go.Proofs.YtedodaifpekahaaW.PrintLast Go.Proofs.YtedodaifpekahaaW.PrintMore
attribute [local go_sem] max2_int min2_int max_two min_two max_three min_three max_four min_four
set_option linter.unusedVariables false
set_option linter.unusedSimpArgs false
set_option maxHeartbeats 8000000 in
set_option maxRecDepth 100000 in
theorem laws_toIns.calls (a0_0 : Int) (a0_1 : Int) (a0_2 : Int) (r1 : Int) (r2 : Int) (r3 : Int) (w : World) (h : laws_toIns.f a0_0 a0_1 a0_2 = some (r1, r2, r3)) :
    Calls Try.prog 70 #[.agg #[.int .i64 a0_0, .int .i64 a0_1, .int .i64 a0_2]] w fun e w' => e = .returned (.agg #[.int .i64 r1, .int .i64 r2, .int .i64 r3]) ∧ Below w.heap.size w w' := by
  have hu113 := Try.underlying113
  have hu67 := Try.underlying67
  have HB := Aside0.mk (Below.refl w.heap.size w)
  have H : (some (a0_0, a0_1, a0_2)) = some (r1, r2, r3) := h
  clear h
  simp only [Option.some.injEq, Prod.mk.injEq] at H
  obtain ⟨rfl, rfl, rfl⟩ := H
  go_enter Try.func70, Try.ntmps70
  go_wp2_with (first | ((with_reducible refine gate_dst (N := 1) rfl ?_); refine box_event ?hg (N := 1) ?hd (cs := #[.int .i64 a0_0, .int .i64 a0_1, .int .i64 a0_2]) (t := 113) ?hr ?_; (case hd => rfl); (case hg => rfl); (case hr => first | (go_simp; done) | (go_simp; rfl)); intro gb233 hg w2 hbox hb; have n0_ := Aside0.mk (below_step (by repeat (first | (with_reducible first | exact HB.out | apply below_alloc | apply pw_below_drewN | apply below_drew1) | exact HB.out)) hb); have n1_ := Aside0.mk (hbox); have n2_ := Aside0.mk ((by rw [hg]; exact (below_size (by repeat (first | (with_reducible first | exact HB.out | apply below_alloc | apply pw_below_drewN | apply below_drew1) | exact HB.out))) : w.heap.size ≤ gb233)); have n3_ := Aside0.mk ((by rw [hg]; exact (below_size (by repeat (first | (with_reducible first | exact HB.out | apply below_alloc | apply pw_below_drewN | apply below_drew1) | exact HB.out))) : w.heap.size ≤ gb233)); clear HB; have HB := n0_; have BK233 := n1_; have GW233 := n2_; have GE233 := n3_; clear n0_ n1_ n2_ n3_; clear hb hbox hg) | ((with_reducible refine gate_dst (N := 2) rfl ?_); refine box_event ?hg (N := 2) ?hd (cs := #[.int .i64 0, .int .i64 0, .int .i64 0]) (t := 67) ?hr ?_; (case hd => rfl); (case hg => rfl); (case hr => first | (go_simp; done) | (go_simp; rfl)); intro gb234 hg w3 hbox hb; have n0_ := Aside0.mk (blk_below (g := gb233) (o := .cells #[.int .i64 a0_0, .int .i64 a0_1, .int .i64 a0_2] 113 (0, 0)) (by (with_reducible repeat (first | refine blk_drewN ?_ _ | refine blk_drew ?_ | refine blk_alloc ?_ _)); exact BK233.out) hb); have n1_ := Aside0.mk (below_step (by repeat (first | (with_reducible first | exact HB.out | apply below_alloc | apply pw_below_drewN | apply below_drew1 | refine below_set ?_ GE233.out) | exact HB.out)) hb); have n2_ := Aside0.mk (hbox); have n3_ := Aside0.mk ((by rw [hg]; exact (below_size (by repeat (first | (with_reducible first | exact HB.out | apply below_alloc | apply pw_below_drewN | apply below_drew1 | refine below_set ?_ GE233.out) | exact HB.out))) : w.heap.size ≤ gb234)); have n4_ := Aside0.mk ((by rw [hg]; exact (below_size (by repeat (first | (with_reducible first | exact HB.out | apply below_alloc | apply pw_below_drewN | apply below_drew1 | refine below_set ?_ GE233.out) | exact HB.out))) : w.heap.size ≤ gb234)); have n5_ := Aside0.mk ((by rw [hg]; exact Nat.ne_of_lt (blk_lt (g := gb233) (o := .cells #[.int .i64 a0_0, .int .i64 a0_1, .int .i64 a0_2] 113 (0, 0)) (by (with_reducible repeat (first | refine blk_drewN ?_ _ | refine blk_drew ?_ | refine blk_alloc ?_ _)); exact BK233.out)) : gb233 ≠ gb234)); have n6_ := Aside0.mk ((by rw [hg]; exact Nat.ne_of_gt (blk_lt (g := gb233) (o := .cells #[.int .i64 a0_0, .int .i64 a0_1, .int .i64 a0_2] 113 (0, 0)) (by (with_reducible repeat (first | refine blk_drewN ?_ _ | refine blk_drew ?_ | refine blk_alloc ?_ _)); exact BK233.out)) : gb234 ≠ gb233)); clear BK233; clear HB; have BK233 := n0_; have HB := n1_; have BK234 := n2_; have GW234 := n3_; have GE234 := n4_; have NB233_234 := n5_; have NB234_233 := n6_; clear n0_ n1_ n2_ n3_ n4_ n5_ n6_; clear hb hbox hg) | ((with_reducible refine gate_dst (N := 3) rfl ?_); refine box_event ?hg (N := 3) ?hd (cs := #[.int .i64 0, .int .i64 0, .int .i64 0]) (t := 67) ?hr ?_; (case hd => rfl); (case hg => rfl); (case hr => first | (go_simp; done) | (go_simp; rfl)); intro gb235 hg w4 hbox hb; have n0_ := Aside0.mk (blk_below (g := gb233) (o := .cells #[.int .i64 a0_0, .int .i64 a0_1, .int .i64 a0_2] 113 (0, 0)) (by (with_reducible repeat (first | refine blk_drewN ?_ _ | refine blk_drew ?_ | refine blk_alloc ?_ _)); exact BK233.out) hb); have n1_ := Aside0.mk (blk_below (g := gb234) (o := .cells #[.int .i64 0, .int .i64 0, .int .i64 0] 67 (0, 0)) (by (with_reducible repeat (first | refine blk_drewN ?_ _ | refine blk_drew ?_ | refine blk_alloc ?_ _)); exact BK234.out) hb); have n2_ := Aside0.mk (below_step (by repeat (first | (with_reducible first | exact HB.out | apply below_alloc | apply pw_below_drewN | apply below_drew1 | refine below_set ?_ GE233.out | refine below_set ?_ GE234.out) | exact HB.out)) hb); have n3_ := Aside0.mk (hbox); have n4_ := Aside0.mk ((by rw [hg]; exact (below_size (by repeat (first | (with_reducible first | exact HB.out | apply below_alloc | apply pw_below_drewN | apply below_drew1 | refine below_set ?_ GE233.out | refine below_set ?_ GE234.out) | exact HB.out))) : w.heap.size ≤ gb235)); have n5_ := Aside0.mk ((by rw [hg]; exact (below_size (by repeat (first | (with_reducible first | exact HB.out | apply below_alloc | apply pw_below_drewN | apply below_drew1 | refine below_set ?_ GE233.out | refine below_set ?_ GE234.out) | exact HB.out))) : w.heap.size ≤ gb235)); have n6_ := Aside0.mk ((by rw [hg]; exact Nat.ne_of_lt (blk_lt (g := gb233) (o := .cells #[.int .i64 a0_0, .int .i64 a0_1, .int .i64 a0_2] 113 (0, 0)) (by (with_reducible repeat (first | refine blk_drewN ?_ _ | refine blk_drew ?_ | refine blk_alloc ?_ _)); exact BK233.out)) : gb233 ≠ gb235)); have n7_ := Aside0.mk ((by rw [hg]; exact Nat.ne_of_gt (blk_lt (g := gb233) (o := .cells #[.int .i64 a0_0, .int .i64 a0_1, .int .i64 a0_2] 113 (0, 0)) (by (with_reducible repeat (first | refine blk_drewN ?_ _ | refine blk_drew ?_ | refine blk_alloc ?_ _)); exact BK233.out)) : gb235 ≠ gb233)); have n8_ := Aside0.mk ((by rw [hg]; exact Nat.ne_of_lt (blk_lt (g := gb234) (o := .cells #[.int .i64 0, .int .i64 0, .int .i64 0] 67 (0, 0)) (by (with_reducible repeat (first | refine blk_drewN ?_ _ | refine blk_drew ?_ | refine blk_alloc ?_ _)); exact BK234.out)) : gb234 ≠ gb235)); have n9_ := Aside0.mk ((by rw [hg]; exact Nat.ne_of_gt (blk_lt (g := gb234) (o := .cells #[.int .i64 0, .int .i64 0, .int .i64 0] 67 (0, 0)) (by (with_reducible repeat (first | refine blk_drewN ?_ _ | refine blk_drew ?_ | refine blk_alloc ?_ _)); exact BK234.out)) : gb235 ≠ gb234)); clear BK233; clear BK234; clear HB; have BK233 := n0_; have BK234 := n1_; have HB := n2_; have BK235 := n3_; have GW235 := n4_; have GE235 := n5_; have NB233_235 := n6_; have NB235_233 := n7_; have NB234_235 := n8_; have NB235_234 := n9_; clear n0_ n1_ n2_ n3_ n4_ n5_ n6_ n7_ n8_ n9_; clear hb hbox hg; have hnb5 := NB233_234.out; have hnc5 := NB234_233.out; have hnb6 := NB233_235.out; have hnc6 := NB235_233.out; have hcz7_0 : w4.cell? ⟨gb233, 0, none⟩ = some (.int .i64 a0_0) := (blk_cell BK233.out 0).trans rfl; have hcz7_1 : w4.cell? ⟨gb233, 1, none⟩ = some (.int .i64 a0_1) := (blk_cell BK233.out 1).trans rfl; have hcz7_2 : w4.cell? ⟨gb233, 2, none⟩ = some (.int .i64 a0_2) := (blk_cell BK233.out 2).trans rfl; have hfz7_0 := blk_frozen BK233.out 0; have hfz7_1 := blk_frozen BK233.out 1; have hfz7_2 := blk_frozen BK233.out 2; have hnb8 := NB235_234.out; have hnc8 := NB234_235.out; have hcz9_0 : w4.cell? ⟨gb235, 0, none⟩ = some (.int .i64 0) := (blk_cell BK235.out 0).trans rfl; have hcz9_1 : w4.cell? ⟨gb235, 1, none⟩ = some (.int .i64 0) := (blk_cell BK235.out 1).trans rfl; have hcz9_2 : w4.cell? ⟨gb235, 2, none⟩ = some (.int .i64 0) := (blk_cell BK235.out 2).trans rfl; have hfz9_0 := blk_frozen BK235.out 0; have hfz9_1 := blk_frozen BK235.out 1; have hfz9_2 := blk_frozen BK235.out 2; have hcz10_0 : w4.cell? ⟨gb234, 0, none⟩ = some (.int .i64 0) := (blk_cell BK234.out 0).trans rfl; have hcz10_1 : w4.cell? ⟨gb234, 1, none⟩ = some (.int .i64 0) := (blk_cell BK234.out 1).trans rfl; have hcz10_2 : w4.cell? ⟨gb234, 2, none⟩ = some (.int .i64 0) := (blk_cell BK234.out 2).trans rfl; have hfz10_0 := blk_frozen BK234.out 0; have hfz10_1 := blk_frozen BK234.out 1; have hfz10_2 := blk_frozen BK234.out 2))
  refine bodyPost_ret (results_cell_row rfl _ _ gb234 67 #[.int .i64 a0_0, .int .i64 a0_1, .int .i64 a0_2] (0, 0) _ rfl (by (with_reducible repeat (first | refine blk_drewN ?_ _ | refine blk_drew ?_ | refine blk_alloc ?_ _)); refine blk_put (cs := #[.int .i64 a0_0, .int .i64 a0_1, .int .i64 0]) ?_ 2 _ rfl; (with_reducible repeat (first | refine blk_drewN ?_ _ | refine blk_drew ?_ | refine blk_alloc ?_ _)); refine blk_put (cs := #[.int .i64 a0_0, .int .i64 0, .int .i64 0]) ?_ 1 _ rfl; (with_reducible repeat (first | refine blk_drewN ?_ _ | refine blk_drew ?_ | refine blk_alloc ?_ _)); refine blk_put (cs := #[.int .i64 0, .int .i64 0, .int .i64 0]) ?_ 0 _ rfl; (with_reducible repeat (first | refine blk_drewN ?_ _ | refine blk_drew ?_ | refine blk_alloc ?_ _)); refine blk_far ?_ NB234_235.out _; (with_reducible repeat (first | refine blk_drewN ?_ _ | refine blk_drew ?_ | refine blk_alloc ?_ _)); refine blk_far ?_ NB234_235.out _; (with_reducible repeat (first | refine blk_drewN ?_ _ | refine blk_drew ?_ | refine blk_alloc ?_ _)); refine blk_far ?_ NB234_235.out _; (with_reducible repeat (first | refine blk_drewN ?_ _ | refine blk_drew ?_ | refine blk_alloc ?_ _)); exact BK234.out) Try.underlying67 rfl (by kernel_rfl)) rfl ?_
  exact ⟨by first | rfl | (simp [errW_none, errW_some] <;> rfl) | (simp [*, errW_none, errW_some] <;> rfl), by repeat (first | (with_reducible first | exact HB.out | apply below_alloc | apply pw_below_drewN | apply below_drew1 | refine below_set ?_ GE233.out | refine below_set ?_ GE234.out | refine below_set ?_ GE235.out) | exact HB.out)⟩
end Go.Proofs.Ytedodaifpekahaa.P

end
section

namespace Go.Proofs.Ytedodaifpekahaa.P
open Go.RowKit Go.Proofs.YtedodaifpekahaaW.PrintWords Go.Proofs.YtedodaifpekahaaW.PrintLast Go.Proofs.YtedodaifpekahaaW.PrintMore
attribute [local go_sem] max2_int min2_int max_two min_two max_three min_three max_four min_four
set_option linter.unusedVariables false
set_option linter.unusedSimpArgs false
set_option maxHeartbeats 8000000 in
set_option maxRecDepth 100000 in
theorem laws_toInsS.calls (k : Nat) (A0 : Option Addr) (c0 : Nat) (l0 : List (S113)) (r : List (S67)) (w : World) (hr0 : Kd.C k113 w A0 l0.length l0) (hc0 : l0.length ≤ c0) (h : laws_toInsS.f k l0 = some r) :
    Calls Try.prog 59 #[.slice A0 l0.length c0] w fun e w' => ∃ v0_ : Value, e = .returned (v0_) ∧ Kd.R k67 67 w' w.heap.size (fun _ => True) v0_ r ∧ Below w.heap.size w w' := by
  have hu113 := Try.underlying113
  have hu67 := Try.underlying67
  have HR0 := Aside0.mk hr0
  have HC0 := Aside0.mk hc0
  clear hr0 hc0
  have HB := Aside0.mk (Below.refl w.heap.size w)
  have H : (if 0 ≤ (l0.length : Int) then (if ((l0.length : Int) : Int).toNat ≤ 11728124029610 then (laws_toInsS.l0 k l0 (List.replicate ((l0.length : Int) : Int).toNat z67) 0) else (none)) else (none)) = some r := h
  clear h
  by_cases c2 : 0 ≤ (l0.length : Int)
  · rw [if_pos c2] at H
    have c2b0 := eq_true c2
    have c2b1 : decide (0 ≤ (l0.length : Int)) = true := decide_eq_true c2
    clear c2
    by_cases c3 : ((l0.length : Int) : Int).toNat ≤ 11728124029610
    · rw [if_pos c3] at H
      have c3b0 := eq_true c3
      have c3b1 : decide (((l0.length : Int) : Int).toNat ≤ 11728124029610) = true := decide_eq_true c3
      clear c3
      obtain ⟨y236, hy236⟩ : ∃ y_ : List (S67), y_ = (List.replicate ((l0.length : Int) : Int).toNat z67) := ⟨_, rfl⟩
      replace H : (laws_toInsS.l0 k l0 y236 0) = some r := by first | (rw [hy236]; with_reducible exact H) | (have H2_ := (Option.bind_some _ _).symm.trans H; rw [hy236]; with_reducible exact H2_) | (have H2_ := (Option.bind_some _ _).symm.trans H; with_reducible exact H2_) | with_reducible exact H | (rw [hy236]; exact H) | exact H
      have Ny236 := Aside0.mk hy236
      clear hy236
      have H' := Aside0.mk H
      clear H
      go_enter Try.func59, Try.ntmps59
      go_wp2_with (first | ((with_reducible refine gate_dst (N := 7) rfl ?_); refine Kd.R_make k67 _ 67 rfl (N := 7) rfl 42 _ _ rfl (l0.length : Int) rfl rfl Try.underlying42 (.agg #[(.int .i64 0), (.int .i64 0), (.int .i64 0)]) 24 info67 rfl (by decide) (by omega) z67 (ok := fun _ => True) (okp := fun _ => True) (k67_mkM _ _ _ z67 ) (fun _ hk => hk) trivial (of_decide_eq_true (by first | (with_reducible assumption) | assumption)) (Nat.le_trans (Nat.mul_le_mul_right _ (of_decide_eq_true (by first | (with_reducible assumption) | assumption) : (l0.length : Int).toNat ≤ 11728124029610)) (by omega)) (Below.refl _ _) (Nat.le_refl _) ?_; intro v237 w4 ho5 hb hg_ hnew_; clear hg_ hnew_; (first | rw [← Ny236.out] at ho5 | (simp only [Int.reduceToNat] at ho5; rw [← Ny236.out] at ho5)); have n0_ := Aside0.mk (Kd.R_lower ho5 (below_size (by repeat (first | (with_reducible first | exact HB.out | apply below_alloc | apply pw_below_drewN | apply below_drew1) | exact HB.out)))); have n1_ := Aside0.mk (below_step (by repeat (first | (with_reducible first | exact HB.out | apply below_alloc | apply pw_below_drewN | apply below_drew1) | exact HB.out)) hb); clear HB; have HO238 := n0_; have HB := n1_; clear n0_ n1_; clear hb ho5))
      go_loopg [4] k (fun kq v4 w' => ∃ (x3_1 : List (S67)) (x4_1 : Int), v4 = .int .i64 x4_1 ∧ Aside0 (laws_toInsS.l0 kq l0 x3_1 x4_1 = some r) ∧ Aside0 (kq ≤ k) ∧ Aside0 (Kd.R k67 67 w' w.heap.size (fun _ => True) v237 x3_1) ∧ Aside0 (Below w.heap.size w w'))
      case atStart => exact ⟨(y236), (0), (by first | rfl | (simp; done) | (simp [*]; done)), H', ⟨Nat.le_refl _⟩, ⟨by (with_reducible repeat (first | apply Kd.R_alloc | apply Kd.R_drewN | apply Kd.R_drew)); exact HO238.out⟩, ⟨by repeat (first | (with_reducible first | exact HB.out | apply below_alloc | apply pw_below_drewN | apply below_drew1) | exact HB.out)⟩⟩
      case round =>
        clear H'
        try clear c2
        try clear c2b0
        try clear c2b1
        try clear p2
        try clear c3
        try clear c3b0
        try clear c3b1
        try clear c5
        obtain ⟨x3_1, x4_1, rfl, HA, HK1, HO_3, HB⟩ := hrel
        cases gk with
        | zero => exact absurd HA.out (by simp [laws_toInsS.l0])
        | succ k1 =>
          have H := HA.out
          clear HA
          simp only [laws_toInsS.l0] at H
          by_cases c6 : x4_1 < (l0.length : Int)
          · rw [if_pos c6] at H
            have c6b0 : decide (x4_1 < (l0.length : Int)) = true := decide_eq_true c6
            clear c6
            by_cases c7 : 0 ≤ x4_1
            · rw [if_pos c7] at H
              have c7b0 : decide (0 ≤ x4_1) = true := decide_eq_true c7
              clear c7
              replace H := Option.bind_eq_some_iff.mp H
              obtain ⟨⟨t240, t241, t242⟩, A80, H⟩ := H
              replace H : (if x4_1 < (x3_1.length : Int) then (laws_toInsS.l0 k1 l0 (x3_1.set (x4_1 : Int).toNat (⟨t240, t241, t242⟩ : S67)) (wrap64 (x4_1 + 1))) else (none)) = some r := H
              have A8 := Aside0.mk A80
              clear A80
              by_cases c9 : x4_1 < (x3_1.length : Int)
              · rw [if_pos c9] at H
                have c9b0 : decide (x4_1 < (x3_1.length : Int)) = true := decide_eq_true c9
                clear c9
                obtain ⟨y243, hy243⟩ : ∃ y_ : List (S67), y_ = (x3_1.set (x4_1 : Int).toNat (⟨t240, t241, t242⟩ : S67)) := ⟨_, rfl⟩
                replace H : (laws_toInsS.l0 k1 l0 y243 (wrap64 (x4_1 + 1))) = some r := by first | (rw [hy243]; with_reducible exact H) | (have H2_ := (Option.bind_some _ _).symm.trans H; rw [hy243]; with_reducible exact H2_) | (have H2_ := (Option.bind_some _ _).symm.trans H; with_reducible exact H2_) | with_reducible exact H | (rw [hy243]; exact H) | exact H
                have Ny243 := Aside0.mk hy243
                clear hy243
                have H' := Aside0.mk H
                clear H
                have p239 : 0 ≤ (x4_1 : Int) := of_decide_eq_true (by first | (with_reducible assumption) | assumption)
                have q239 : x4_1 < (l0.length : Int) := of_decide_eq_true (by first | (with_reducible assumption) | assumption)
                obtain ⟨ad239, e239, hx239_0, hx239_1, hx239_2⟩ := at_T113 HR0.out x4_1 p239 q239
                cases e239
                replace hx239_0 := (HB.out.cell (World.block_lt_of_cell? w _ hx239_0)).trans hx239_0
                replace hx239_1 := (HB.out.cell (World.block_lt_of_cell? w _ hx239_1)).trans hx239_1
                replace hx239_2 := (HB.out.cell (World.block_lt_of_cell? w _ hx239_2)).trans hx239_2
                replace p239 := eq_true p239
                replace q239 := eq_true q239
                go_wp2_with (first | ((with_reducible refine gate_callee (f := 70) rfl ?_); refine goesL_ (some 20) rfl rfl Try.func70 (by kernel_rfl) rfl #[.agg #[.int .i64 ((rd_T113 l0 x4_1).f0), .int .i64 ((rd_T113 l0 x4_1).f1), .int .i64 ((rd_T113 l0 x4_1).f2)]] rfl (by (try simp only [List.map_toArray, List.map_cons, List.map_nil]); first | done | rfl | (simp only [List.length_drop, List.length_take]; rfl)) ?_; (with_reducible refine (laws_toIns.calls ((rd_T113 l0 x4_1).f0) ((rd_T113 l0 x4_1).f1) ((rd_T113 l0 x4_1).f2) t240 t241 t242 _ A8.out).mono ?_); rintro e w11 ⟨rfl, hb⟩; refine ⟨_, rfl, ?_⟩; have n0_ := Aside0.mk (Kd.R_below (by (with_reducible repeat (first | apply Kd.R_alloc | apply Kd.R_drewN | apply Kd.R_drew)); exact HO_3.out) hb); have n1_ := Aside0.mk (below_step (by repeat (first | (with_reducible first | exact HB.out | apply below_alloc | apply pw_below_drewN | apply below_drew1) | exact HB.out)) hb); clear HO_3; clear HB; have HO_3 := n0_; have HB := n1_; clear n0_ n1_; (try clear hb); (try clear hb2); (try clear hk); (try clear hi); have p10 : 0 ≤ (x4_1 : Int) := of_decide_eq_true (by first | (with_reducible assumption) | assumption); have q10 : (x4_1 : Int) < ((x3_1.length : Int) : Int) := of_decide_eq_true (by first | (with_reducible assumption) | assumption); obtain ⟨go10, co10, eo10, gb10, gl10, cl10, HG10⟩ := Kd.R_form HO_3.out (by omega); (first | cases eo10 | (injection eo10 with ea_ en_ ec_; (first | subst ea_ | (injection ea_ with ea_; subst ea_)); subst ec_; clear en_)); have GB10 := Aside0.mk gb10; have GG10 := Aside0.mk HG10; clear gb10 gl10 HG10; obtain ⟨ce10, hcl10, hM10, hcc10, hfr10⟩ := Kd.R_elem HO_3.out z67 (x4_1 : Int) p10 q10; obtain rfl := k67_openM hM10; have hx10_0 : w11.cell? ⟨go10, (x4_1 : Int).toNat * 3, none⟩ = some (.int .i64 ((rd_T67 x3_1 x4_1).f0)) := hcc10 0 _ rfl; have hx10_1 : w11.cell? ⟨go10, (x4_1 : Int).toNat * 3 + 1, none⟩ = some (.int .i64 ((rd_T67 x3_1 x4_1).f1)) := hcc10 1 _ rfl; have hx10_2 : w11.cell? ⟨go10, (x4_1 : Int).toNat * 3 + 2, none⟩ = some (.int .i64 ((rd_T67 x3_1 x4_1).f2)) := hcc10 2 _ rfl; have hf10_0 : w11.frozen? ⟨go10, (x4_1 : Int).toNat * 3, none⟩ = false := hfr10 0; have hf10_1 : w11.frozen? ⟨go10, (x4_1 : Int).toNat * 3 + 1, none⟩ = false := hfr10 1; have hf10_2 : w11.frozen? ⟨go10, (x4_1 : Int).toNat * 3 + 2, none⟩ = false := hfr10 2; clear hcl10 hcc10 hfr10 hM10; replace p10 := eq_true p10; replace q10 := eq_true q10; have HX12 := Aside0.mk (show Kd.R k67 67 w11 w.heap.size (fun _ => True) (.slice (some ⟨go10, 0, none⟩) x3_1.length co10) x3_1 from (by (with_reducible repeat (first | apply Kd.R_alloc | apply Kd.R_drewN | apply Kd.R_drew)); exact HO_3.out)); obtain ⟨ce12, hcl12, hM12, hcc12, hfr12⟩ := Kd.R_elem HX12.out z67 (x4_1 : Int) (of_decide_eq_true (by first | (with_reducible assumption) | assumption)) (by have h_ : (x4_1 : Int) < ((x3_1.length : Int) : Int) := of_decide_eq_true (by first | (with_reducible assumption) | assumption); first | exact h_ | (have e_ := (Kd.R_reads' HO_3.out).1; omega) | simpa using h_); obtain rfl := k67_openM hM12; have HP12 := Kd.R_seg HX12.out (x4_1 : Int) (of_decide_eq_true (by first | (with_reducible assumption) | assumption)) (by have h_ : (x4_1 : Int) < ((x3_1.length : Int) : Int) := of_decide_eq_true (by first | (with_reducible assumption) | assumption); first | exact h_ | (have e_ := (Kd.R_reads' HO_3.out).1; omega) | simpa using h_) (seg := [.int .i64 t240, .int .i64 t241, .int .i64 t242]) (j := 0) hcl12 hcc12 (show 3 ≤ 3 from by decide) (x' := (⟨t240, t241, t242⟩ : S67)) (k67_mkM _ _ _ (⟨t240, t241, t242⟩ : S67) ) (fun _ hk => hk); have hx12_0 := hcc12 0 _ rfl; (try simp only [show (k67).sz = 3 from rfl, Nat.mul_one, Nat.add_zero] at hx12_0); have hf12_0 := hfr12 0; (try simp only [show (k67).sz = 3 from rfl, Nat.mul_one, Nat.add_zero] at hf12_0); have hx12_1 := hcc12 1 _ rfl; (try simp only [show (k67).sz = 3 from rfl, Nat.mul_one, Nat.add_zero] at hx12_1); have hf12_1 := hfr12 1; (try simp only [show (k67).sz = 3 from rfl, Nat.mul_one, Nat.add_zero] at hf12_1); have hx12_2 := hcc12 2 _ rfl; (try simp only [show (k67).sz = 3 from rfl, Nat.mul_one, Nat.add_zero] at hx12_2); have hf12_2 := hfr12 2; (try simp only [show (k67).sz = 3 from rfl, Nat.mul_one, Nat.add_zero] at hf12_2); clear hcl12 hcc12 hfr12 hM12) | ((with_reducible refine gate_store (t := 67) (p := 21) rfl ?_); refine store_event (t := 67) (p := 21) (v := ?vo_w13) (w1 := (((w11.setCell ⟨go10, (x4_1 : Int).toNat * 3, none⟩ (.int .i64 t240)).setCell ⟨go10, (x4_1 : Int).toNat * 3 + 1, none⟩ (.int .i64 t241)).setCell ⟨go10, (x4_1 : Int).toNat * 3 + 2, none⟩ (.int .i64 t242))) ?hg ?ho ?hn ?hr ?_; (case ho => rfl); (case hg => rfl); (case hn => rfl); (case hr => first | (go_simp; done) | (go_simp; rfl)); intro w13 hw; have hg : w11.grownBy w13 (some go10) := (by rw [hw]; exact HP12.2); have hp_ : Kd.R k67 67 w13 w.heap.size (fun _ => True) (.slice (some ⟨go10, 0, none⟩) x3_1.length co10) y243 := (by rw [hw, Ny243.out]; exact HP12.1); clear HP12; have n0_ := Aside0.mk (hp_); have n1_ := Aside0.mk ((by rw [hw]; exact below_set (below_set (below_set (HB.out) GB10.out) GB10.out) GB10.out : Below w.heap.size w w13)); clear HO_3; clear HB; have HO_3 := n0_; have HB := n1_; clear n0_ n1_; clear hg hw hp_))
                go_roundg k1
                case measure => have := HK1.out; omega
                case rel => exact ⟨(y243), (wrap64 (x4_1 + 1)), (by first | rfl | (simp; done) | (simp [*]; done)), H', ⟨by have := HK1.out; omega⟩, ⟨by (with_reducible repeat (first | apply Kd.R_alloc | apply Kd.R_drewN | apply Kd.R_drew)); exact HO_3.out⟩, ⟨by repeat (first | (with_reducible first | exact HB.out | apply below_alloc | apply pw_below_drewN | apply below_drew1) | exact HB.out)⟩⟩
              · rw [if_neg c9] at H
                exact absurd H (by simp)
            · rw [if_neg c7] at H
              exact absurd H (by simp)
          · rw [if_neg c6] at H
            have c6b0 : decide (x4_1 < (l0.length : Int)) = false := decide_eq_false c6
            clear c6
            obtain rfl := Option.some.inj H
            simp only [Option.some.injEq, Prod.mk.injEq] at H
            obtain ⟨rfl⟩ := H
            go_wp2
            go_ret
            exact ⟨_, by first | rfl | (simp [errW_none, errW_some] <;> rfl) | (simp [*, errW_none, errW_some] <;> rfl), by (with_reducible repeat (first | apply Kd.R_alloc | apply Kd.R_drewN | apply Kd.R_drew)); exact HO_3.out, by repeat (first | (with_reducible first | exact HB.out | apply below_alloc | apply pw_below_drewN | apply below_drew1) | exact HB.out)⟩
    · rw [if_neg c3] at H
      exact absurd H (by simp)
  · rw [if_neg c2] at H
    exact absurd H (by simp)
end Go.Proofs.Ytedodaifpekahaa.P

end
section

namespace Go.Proofs.Ytedodaifpekahaa.P
open Go.RowKit Go.Proofs.YtedodaifpekahaaW.PrintWords Go.Proofs.YtedodaifpekahaaW.PrintLast Go.Proofs.YtedodaifpekahaaW.PrintMore
attribute [local go_sem] max2_int min2_int max_two min_two max_three min_three max_four min_four
set_option linter.unusedVariables false
set_option linter.unusedSimpArgs false
set_option maxHeartbeats 8000000 in
set_option maxRecDepth 100000 in
theorem laws_toShape.calls (k : Nat) (a0_0 : Bool) (A0_1 : Option Addr) (c0_1 : Nat) (l0_1 : List Int) (A0_2 : Option Addr) (c0_2 : Nat) (l0_2 : List Int) (r1 : Bool) (r2 : List Int) (r3 : List Int) (w : World) (hr0_1 : Kd.C (Kd.int .i64) w A0_1 l0_1.length l0_1) (hc0_1 : l0_1.length ≤ c0_1) (hr0_2 : Kd.C (Kd.int .i64) w A0_2 l0_2.length l0_2) (hc0_2 : l0_2.length ≤ c0_2) (h : laws_toShape.f k a0_0 l0_1 l0_2 = some (r1, r2, r3)) :
    Calls Try.prog 71 #[.agg #[.bool a0_0, .slice A0_1 l0_1.length c0_1, .slice A0_2 l0_2.length c0_2]] w fun e w' => ∃ v1_ v2_ : Value, e = .returned (.agg #[.bool r1, v1_, v2_]) ∧ Kd.R (Kd.int .i64) 3 w' w.heap.size (fun k_ => some k_ ≠ (v2_ : Value).ownBlock) v1_ r2 ∧ Kd.R (Kd.int .i64) 3 w' w.heap.size (fun k_ => some k_ ≠ (v1_ : Value).ownBlock) v2_ r3 ∧ Below w.heap.size w w' := by
  have hu111 := Try.underlying111
  have hu70 := Try.underlying70
  have HR0_1 := Aside0.mk hr0_1
  have HC0_1 := Aside0.mk hc0_1
  clear hr0_1 hc0_1
  have HR0_2 := Aside0.mk hr0_2
  have HC0_2 := Aside0.mk hc0_2
  clear hr0_2 hc0_2
  have HB := Aside0.mk (Below.refl w.heap.size w)
  have H : ((laws_toIntS.f k l0_1).bind fun t247 => ((laws_toIntS.f k l0_2).bind fun t250 => (some (a0_0, t247, t250)))) = some (r1, r2, r3) := h
  clear h
  replace H := Option.bind_eq_some_iff.mp H
  obtain ⟨t247, A20, H⟩ := H
  replace H : ((laws_toIntS.f k l0_2).bind fun t250 => (some (a0_0, t247, t250))) = some (r1, r2, r3) := H
  have A2 := Aside0.mk A20
  clear A20
  replace H := Option.bind_eq_some_iff.mp H
  obtain ⟨t250, A30, H⟩ := H
  replace H : (some (a0_0, t247, t250)) = some (r1, r2, r3) := H
  have A3 := Aside0.mk A30
  clear A30
  simp only [Option.some.injEq, Prod.mk.injEq] at H
  obtain ⟨rfl, rfl, rfl⟩ := H
  go_enter Try.func71, Try.ntmps71
  go_wp2_with (first | ((with_reducible refine gate_dst (N := 1) rfl ?_); refine box_event ?hg (N := 1) ?hd (cs := #[.bool a0_0, .slice A0_1 l0_1.length c0_1, .slice A0_2 l0_2.length c0_2]) (t := 111) ?hr ?_; (case hd => rfl); (case hg => rfl); (case hr => first | (go_simp; done) | (go_simp; rfl)); intro gb244 hg w4 hbox hb; have n0_ := Aside0.mk (below_step (by repeat (first | (with_reducible first | exact HB.out | apply below_alloc | apply pw_below_drewN | apply below_drew1) | exact HB.out)) hb); have n1_ := Aside0.mk (hbox); have n2_ := Aside0.mk ((by rw [hg]; exact (below_size (by repeat (first | (with_reducible first | exact HB.out | apply below_alloc | apply pw_below_drewN | apply below_drew1) | exact HB.out))) : w.heap.size ≤ gb244)); have n3_ := Aside0.mk ((by rw [hg]; exact (below_size (by repeat (first | (with_reducible first | exact HB.out | apply below_alloc | apply pw_below_drewN | apply below_drew1) | exact HB.out))) : w.heap.size ≤ gb244)); clear HB; have HB := n0_; have BK244 := n1_; have GW244 := n2_; have GE244 := n3_; clear n0_ n1_ n2_ n3_; clear hb hbox hg) | ((with_reducible refine gate_dst (N := 2) rfl ?_); refine box_event ?hg (N := 2) ?hd (cs := #[.bool false, .slice none 0 0, .slice none 0 0]) (t := 70) ?hr ?_; (case hd => rfl); (case hg => rfl); (case hr => first | (go_simp; done) | (go_simp; rfl)); intro gb245 hg w5 hbox hb; have n0_ := Aside0.mk (blk_below (g := gb244) (o := .cells #[.bool a0_0, .slice A0_1 l0_1.length c0_1, .slice A0_2 l0_2.length c0_2] 111 (0, 0)) (by (with_reducible repeat (first | refine blk_drewN ?_ _ | refine blk_drew ?_ | refine blk_alloc ?_ _)); exact BK244.out) hb); have n1_ := Aside0.mk (below_step (by repeat (first | (with_reducible first | exact HB.out | apply below_alloc | apply pw_below_drewN | apply below_drew1 | refine below_set ?_ GE244.out) | exact HB.out)) hb); have n2_ := Aside0.mk (hbox); have n3_ := Aside0.mk ((by rw [hg]; exact (below_size (by repeat (first | (with_reducible first | exact HB.out | apply below_alloc | apply pw_below_drewN | apply below_drew1 | refine below_set ?_ GE244.out) | exact HB.out))) : w.heap.size ≤ gb245)); have n4_ := Aside0.mk ((by rw [hg]; exact (below_size (by repeat (first | (with_reducible first | exact HB.out | apply below_alloc | apply pw_below_drewN | apply below_drew1 | refine below_set ?_ GE244.out) | exact HB.out))) : w.heap.size ≤ gb245)); have n5_ := Aside0.mk ((by rw [hg]; exact Nat.ne_of_lt (blk_lt (g := gb244) (o := .cells #[.bool a0_0, .slice A0_1 l0_1.length c0_1, .slice A0_2 l0_2.length c0_2] 111 (0, 0)) (by (with_reducible repeat (first | refine blk_drewN ?_ _ | refine blk_drew ?_ | refine blk_alloc ?_ _)); exact BK244.out)) : gb244 ≠ gb245)); have n6_ := Aside0.mk ((by rw [hg]; exact Nat.ne_of_gt (blk_lt (g := gb244) (o := .cells #[.bool a0_0, .slice A0_1 l0_1.length c0_1, .slice A0_2 l0_2.length c0_2] 111 (0, 0)) (by (with_reducible repeat (first | refine blk_drewN ?_ _ | refine blk_drew ?_ | refine blk_alloc ?_ _)); exact BK244.out)) : gb245 ≠ gb244)); clear BK244; clear HB; have BK244 := n0_; have HB := n1_; have BK245 := n2_; have GW245 := n3_; have GE245 := n4_; have NB244_245 := n5_; have NB245_244 := n6_; clear n0_ n1_ n2_ n3_ n4_ n5_ n6_; clear hb hbox hg) | ((with_reducible refine gate_dst (N := 3) rfl ?_); refine box_event ?hg (N := 3) ?hd (cs := #[.bool false, .slice none 0 0, .slice none 0 0]) (t := 70) ?hr ?_; (case hd => rfl); (case hg => rfl); (case hr => first | (go_simp; done) | (go_simp; rfl)); intro gb246 hg w6 hbox hb; have n0_ := Aside0.mk (blk_below (g := gb244) (o := .cells #[.bool a0_0, .slice A0_1 l0_1.length c0_1, .slice A0_2 l0_2.length c0_2] 111 (0, 0)) (by (with_reducible repeat (first | refine blk_drewN ?_ _ | refine blk_drew ?_ | refine blk_alloc ?_ _)); exact BK244.out) hb); have n1_ := Aside0.mk (blk_below (g := gb245) (o := .cells #[.bool false, .slice none 0 0, .slice none 0 0] 70 (0, 0)) (by (with_reducible repeat (first | refine blk_drewN ?_ _ | refine blk_drew ?_ | refine blk_alloc ?_ _)); exact BK245.out) hb); have n2_ := Aside0.mk (below_step (by repeat (first | (with_reducible first | exact HB.out | apply below_alloc | apply pw_below_drewN | apply below_drew1 | refine below_set ?_ GE244.out | refine below_set ?_ GE245.out) | exact HB.out)) hb); have n3_ := Aside0.mk (hbox); have n4_ := Aside0.mk ((by rw [hg]; exact (below_size (by repeat (first | (with_reducible first | exact HB.out | apply below_alloc | apply pw_below_drewN | apply below_drew1 | refine below_set ?_ GE244.out | refine below_set ?_ GE245.out) | exact HB.out))) : w.heap.size ≤ gb246)); have n5_ := Aside0.mk ((by rw [hg]; exact (below_size (by repeat (first | (with_reducible first | exact HB.out | apply below_alloc | apply pw_below_drewN | apply below_drew1 | refine below_set ?_ GE244.out | refine below_set ?_ GE245.out) | exact HB.out))) : w.heap.size ≤ gb246)); have n6_ := Aside0.mk ((by rw [hg]; exact Nat.ne_of_lt (blk_lt (g := gb244) (o := .cells #[.bool a0_0, .slice A0_1 l0_1.length c0_1, .slice A0_2 l0_2.length c0_2] 111 (0, 0)) (by (with_reducible repeat (first | refine blk_drewN ?_ _ | refine blk_drew ?_ | refine blk_alloc ?_ _)); exact BK244.out)) : gb244 ≠ gb246)); have n7_ := Aside0.mk ((by rw [hg]; exact Nat.ne_of_gt (blk_lt (g := gb244) (o := .cells #[.bool a0_0, .slice A0_1 l0_1.length c0_1, .slice A0_2 l0_2.length c0_2] 111 (0, 0)) (by (with_reducible repeat (first | refine blk_drewN ?_ _ | refine blk_drew ?_ | refine blk_alloc ?_ _)); exact BK244.out)) : gb246 ≠ gb244)); have n8_ := Aside0.mk ((by rw [hg]; exact Nat.ne_of_lt (blk_lt (g := gb245) (o := .cells #[.bool false, .slice none 0 0, .slice none 0 0] 70 (0, 0)) (by (with_reducible repeat (first | refine blk_drewN ?_ _ | refine blk_drew ?_ | refine blk_alloc ?_ _)); exact BK245.out)) : gb245 ≠ gb246)); have n9_ := Aside0.mk ((by rw [hg]; exact Nat.ne_of_gt (blk_lt (g := gb245) (o := .cells #[.bool false, .slice none 0 0, .slice none 0 0] 70 (0, 0)) (by (with_reducible repeat (first | refine blk_drewN ?_ _ | refine blk_drew ?_ | refine blk_alloc ?_ _)); exact BK245.out)) : gb246 ≠ gb245)); clear BK244; clear BK245; clear HB; have BK244 := n0_; have BK245 := n1_; have HB := n2_; have BK246 := n3_; have GW246 := n4_; have GE246 := n5_; have NB244_246 := n6_; have NB246_244 := n7_; have NB245_246 := n8_; have NB246_245 := n9_; clear n0_ n1_ n2_ n3_ n4_ n5_ n6_ n7_ n8_ n9_; clear hb hbox hg; have hnb7 := NB244_245.out; have hnc7 := NB245_244.out; have hnb8 := NB244_246.out; have hnc8 := NB246_244.out; have hcz9_0 : w6.cell? ⟨gb244, 0, none⟩ = some (.bool a0_0) := (blk_cell BK244.out 0).trans rfl; have hcz9_1 : w6.cell? ⟨gb244, 1, none⟩ = some (.slice A0_1 l0_1.length c0_1) := (blk_cell BK244.out 1).trans rfl; have hcz9_2 : w6.cell? ⟨gb244, 2, none⟩ = some (.slice A0_2 l0_2.length c0_2) := (blk_cell BK244.out 2).trans rfl; have hfz9_0 := blk_frozen BK244.out 0; have hfz9_1 := blk_frozen BK244.out 1; have hfz9_2 := blk_frozen BK244.out 2; have hnb10 := NB246_245.out; have hnc10 := NB245_246.out; have hcz11_0 : w6.cell? ⟨gb246, 0, none⟩ = some (.bool false) := (blk_cell BK246.out 0).trans rfl; have hcz11_1 : w6.cell? ⟨gb246, 1, none⟩ = some (.slice none 0 0) := (blk_cell BK246.out 1).trans rfl; have hcz11_2 : w6.cell? ⟨gb246, 2, none⟩ = some (.slice none 0 0) := (blk_cell BK246.out 2).trans rfl; have hfz11_0 := blk_frozen BK246.out 0; have hfz11_1 := blk_frozen BK246.out 1; have hfz11_2 := blk_frozen BK246.out 2) | ((with_reducible refine gate_callee (f := 58) rfl ?_); refine goesL_ (some 9) rfl rfl Try.func58 (by kernel_rfl) rfl #[.slice A0_1 l0_1.length c0_1] rfl (by (try simp only [List.map_toArray, List.map_cons, List.map_nil]); first | done | rfl | (simp only [List.length_drop, List.length_take]; rfl)) ?_; (with_reducible refine (laws_toIntS.calls k _ _ l0_1 t247 _ ?side1 ?side2 A2.out).mono ?_); (case side1 => exact Kd.C_below HR0_1.out (by repeat (first | (with_reducible first | exact HB.out | apply below_alloc | apply pw_below_drewN | apply below_drew1 | refine below_set ?_ GE244.out | refine below_set ?_ GE245.out | refine below_set ?_ GE246.out) | exact HB.out))); (case side2 => exact HC0_1.out); rintro e w12 ⟨v248, rfl, ho0, hb⟩; refine ⟨_, rfl, ?_⟩; have n0_ := Aside0.mk (Kd.R_lower ho0 (below_size (by repeat (first | (with_reducible first | exact HB.out | apply below_alloc | apply pw_below_drewN | apply below_drew1 | refine below_set ?_ GE244.out | refine below_set ?_ GE245.out | refine below_set ?_ GE246.out) | exact HB.out)))); have n1_ := Aside0.mk (blk_below (g := gb244) (o := .cells #[.bool a0_0, .slice A0_1 l0_1.length c0_1, .slice A0_2 l0_2.length c0_2] 111 (0, 0)) (by (with_reducible repeat (first | refine blk_drewN ?_ _ | refine blk_drew ?_ | refine blk_alloc ?_ _)); refine blk_far ?_ NB244_246.out _; (with_reducible repeat (first | refine blk_drewN ?_ _ | refine blk_drew ?_ | refine blk_alloc ?_ _)); exact BK244.out) hb); have n2_ := Aside0.mk (blk_below (g := gb245) (o := .cells #[.bool false, .slice none 0 0, .slice none 0 0] 70 (0, 0)) (by (with_reducible repeat (first | refine blk_drewN ?_ _ | refine blk_drew ?_ | refine blk_alloc ?_ _)); refine blk_far ?_ NB245_246.out _; (with_reducible repeat (first | refine blk_drewN ?_ _ | refine blk_drew ?_ | refine blk_alloc ?_ _)); exact BK245.out) hb); have n3_ := Aside0.mk (blk_below (g := gb246) (o := .cells #[.bool a0_0, .slice none 0 0, .slice none 0 0] 70 (0, 0)) (by (with_reducible repeat (first | refine blk_drewN ?_ _ | refine blk_drew ?_ | refine blk_alloc ?_ _)); refine blk_put (cs := #[.bool false, .slice none 0 0, .slice none 0 0]) ?_ 0 _ rfl; (with_reducible repeat (first | refine blk_drewN ?_ _ | refine blk_drew ?_ | refine blk_alloc ?_ _)); exact BK246.out) hb); have n4_ := Aside0.mk (below_step (by repeat (first | (with_reducible first | exact HB.out | apply below_alloc | apply pw_below_drewN | apply below_drew1 | refine below_set ?_ GE244.out | refine below_set ?_ GE245.out | refine below_set ?_ GE246.out) | exact HB.out)) hb); clear BK244; clear BK245; clear BK246; clear HB; have HO249 := n0_; have BK244 := n1_; have BK245 := n2_; have BK246 := n3_; have HB := n4_; clear n0_ n1_ n2_ n3_ n4_; (try clear hb); (try clear hb2); (try clear hk); (try clear hi); (try clear ho0); obtain ⟨Ao13, co13, eo13⟩ := Kd.R_slice HO249.out; subst eo13; have hcz14_0 : w12.cell? ⟨gb246, 0, none⟩ = some (.bool a0_0) := (blk_cell BK246.out 0).trans rfl; have hcz14_1 : w12.cell? ⟨gb246, 1, none⟩ = some (.slice none 0 0) := (blk_cell BK246.out 1).trans rfl; have hcz14_2 : w12.cell? ⟨gb246, 2, none⟩ = some (.slice none 0 0) := (blk_cell BK246.out 2).trans rfl; have hfz14_0 := blk_frozen BK246.out 0; have hfz14_1 := blk_frozen BK246.out 1; have hfz14_2 := blk_frozen BK246.out 2; have hcz15_0 : w12.cell? ⟨gb244, 0, none⟩ = some (.bool a0_0) := (blk_cell BK244.out 0).trans rfl; have hcz15_1 : w12.cell? ⟨gb244, 1, none⟩ = some (.slice A0_1 l0_1.length c0_1) := (blk_cell BK244.out 1).trans rfl; have hcz15_2 : w12.cell? ⟨gb244, 2, none⟩ = some (.slice A0_2 l0_2.length c0_2) := (blk_cell BK244.out 2).trans rfl; have hfz15_0 := blk_frozen BK244.out 0; have hfz15_1 := blk_frozen BK244.out 1; have hfz15_2 := blk_frozen BK244.out 2) | ((with_reducible refine gate_callee (f := 58) rfl ?_); refine goesL_ (some 13) rfl rfl Try.func58 (by kernel_rfl) rfl #[.slice A0_2 l0_2.length c0_2] rfl (by (try simp only [List.map_toArray, List.map_cons, List.map_nil]); first | done | rfl | (simp only [List.length_drop, List.length_take]; rfl)) ?_; (with_reducible refine (laws_toIntS.calls k _ _ l0_2 t250 _ ?side1 ?side2 A3.out).mono ?_); (case side1 => exact Kd.C_below HR0_2.out (by repeat (first | (with_reducible first | exact HB.out | apply below_alloc | apply pw_below_drewN | apply below_drew1 | refine below_set ?_ GE244.out | refine below_set ?_ GE245.out | refine below_set ?_ GE246.out) | exact HB.out))); (case side2 => exact HC0_2.out); rintro e w16 ⟨v251, rfl, ho0, hb⟩; refine ⟨_, rfl, ?_⟩; have n0_ := Aside0.mk (Kd.R_elder' (by (with_reducible repeat (first | apply Kd.R_alloc | apply Kd.R_drewN | apply Kd.R_drew)); exact (Kd.R_mono (Kd.R_far (p := ⟨gb246, 1, none⟩) (Kd.R_types HO249.out BK246.out (by decide)) (fun _ hk => hk.2) (.slice Ao13 t247.length co13)) (fun _ h_ => h_.1))) (Kd.R_base ho0) hb); have n1_ := Aside0.mk (Kd.R_lower (Kd.R_new' ho0 (Kd.R_lt (by (with_reducible repeat (first | apply Kd.R_alloc | apply Kd.R_drewN | apply Kd.R_drew)); exact (Kd.R_mono (Kd.R_far (p := ⟨gb246, 1, none⟩) (Kd.R_types HO249.out BK246.out (by decide)) (fun _ hk => hk.2) (.slice Ao13 t247.length co13)) (fun _ h_ => h_.1))))) (below_size (by repeat (first | (with_reducible first | exact HB.out | apply below_alloc | apply pw_below_drewN | apply below_drew1 | refine below_set ?_ GE244.out | refine below_set ?_ GE245.out | refine below_set ?_ GE246.out) | exact HB.out)))); have n2_ := Aside0.mk (blk_below (g := gb244) (o := .cells #[.bool a0_0, .slice A0_1 l0_1.length c0_1, .slice A0_2 l0_2.length c0_2] 111 (0, 0)) (by (with_reducible repeat (first | refine blk_drewN ?_ _ | refine blk_drew ?_ | refine blk_alloc ?_ _)); refine blk_far ?_ NB244_246.out _; (with_reducible repeat (first | refine blk_drewN ?_ _ | refine blk_drew ?_ | refine blk_alloc ?_ _)); exact BK244.out) hb); have n3_ := Aside0.mk (blk_below (g := gb245) (o := .cells #[.bool false, .slice none 0 0, .slice none 0 0] 70 (0, 0)) (by (with_reducible repeat (first | refine blk_drewN ?_ _ | refine blk_drew ?_ | refine blk_alloc ?_ _)); refine blk_far ?_ NB245_246.out _; (with_reducible repeat (first | refine blk_drewN ?_ _ | refine blk_drew ?_ | refine blk_alloc ?_ _)); exact BK245.out) hb); have n4_ := Aside0.mk (blk_below (g := gb246) (o := .cells #[.bool a0_0, .slice Ao13 t247.length co13, .slice none 0 0] 70 (0, 0)) (by (with_reducible repeat (first | refine blk_drewN ?_ _ | refine blk_drew ?_ | refine blk_alloc ?_ _)); refine blk_put (cs := #[.bool a0_0, .slice none 0 0, .slice none 0 0]) ?_ 1 _ rfl; (with_reducible repeat (first | refine blk_drewN ?_ _ | refine blk_drew ?_ | refine blk_alloc ?_ _)); exact BK246.out) hb); have n5_ := Aside0.mk (below_step (by repeat (first | (with_reducible first | exact HB.out | apply below_alloc | apply pw_below_drewN | apply below_drew1 | refine below_set ?_ GE244.out | refine below_set ?_ GE245.out | refine below_set ?_ GE246.out) | exact HB.out)) hb); clear HO249; clear BK244; clear BK245; clear BK246; clear HB; have HO249 := n0_; have HO252 := n1_; have BK244 := n2_; have BK245 := n3_; have BK246 := n4_; have HB := n5_; clear n0_ n1_ n2_ n3_ n4_ n5_; (try clear hb); (try clear hb2); (try clear hk); (try clear hi); (try clear ho0); obtain ⟨Ao17, co17, eo17⟩ := Kd.R_slice HO252.out; subst eo17; have hcz18_0 : w16.cell? ⟨gb246, 0, none⟩ = some (.bool a0_0) := (blk_cell BK246.out 0).trans rfl; have hcz18_1 : w16.cell? ⟨gb246, 1, none⟩ = some (.slice Ao13 t247.length co13) := (blk_cell BK246.out 1).trans rfl; have hcz18_2 : w16.cell? ⟨gb246, 2, none⟩ = some (.slice none 0 0) := (blk_cell BK246.out 2).trans rfl; have hfz18_0 := blk_frozen BK246.out 0; have hfz18_1 := blk_frozen BK246.out 1; have hfz18_2 := blk_frozen BK246.out 2; have hcz19_0 : w16.cell? ⟨gb245, 0, none⟩ = some (.bool false) := (blk_cell BK245.out 0).trans rfl; have hcz19_1 : w16.cell? ⟨gb245, 1, none⟩ = some (.slice none 0 0) := (blk_cell BK245.out 1).trans rfl; have hcz19_2 : w16.cell? ⟨gb245, 2, none⟩ = some (.slice none 0 0) := (blk_cell BK245.out 2).trans rfl; have hfz19_0 := blk_frozen BK245.out 0; have hfz19_1 := blk_frozen BK245.out 1; have hfz19_2 := blk_frozen BK245.out 2))
  refine bodyPost_ret (results_cell_row rfl _ _ gb245 70 #[.bool a0_0, .slice Ao13 t247.length co13, .slice Ao17 t250.length co17] (0, 0) _ rfl (by (with_reducible repeat (first | refine blk_drewN ?_ _ | refine blk_drew ?_ | refine blk_alloc ?_ _)); refine blk_put (cs := #[.bool a0_0, .slice Ao13 t247.length co13, .slice none 0 0]) ?_ 2 _ rfl; (with_reducible repeat (first | refine blk_drewN ?_ _ | refine blk_drew ?_ | refine blk_alloc ?_ _)); refine blk_put (cs := #[.bool a0_0, .slice none 0 0, .slice none 0 0]) ?_ 1 _ rfl; (with_reducible repeat (first | refine blk_drewN ?_ _ | refine blk_drew ?_ | refine blk_alloc ?_ _)); refine blk_put (cs := #[.bool false, .slice none 0 0, .slice none 0 0]) ?_ 0 _ rfl; (with_reducible repeat (first | refine blk_drewN ?_ _ | refine blk_drew ?_ | refine blk_alloc ?_ _)); refine blk_far ?_ NB245_246.out _; (with_reducible repeat (first | refine blk_drewN ?_ _ | refine blk_drew ?_ | refine blk_alloc ?_ _)); exact BK245.out) Try.underlying70 rfl (by kernel_rfl)) rfl ?_
  exact ⟨_, _, by first | rfl | (simp [errW_none, errW_some] <;> rfl) | (simp [*, errW_none, errW_some] <;> rfl), by (with_reducible repeat (first | apply Kd.R_alloc | apply Kd.R_drewN | apply Kd.R_drew)); exact Kd.R_mono (Kd.R_far (p := ⟨gb245, 2, none⟩) (Kd.R_far (p := ⟨gb245, 1, none⟩) (Kd.R_far (p := ⟨gb245, 0, none⟩) (Kd.R_far (p := ⟨gb246, 2, none⟩) (Kd.R_types (Kd.R_types HO249.out BK246.out (by decide)) BK245.out (by decide)) (fun _ hk => hk.1.2) (.slice Ao17 t250.length co17)) (fun _ hk => hk.2) (.bool a0_0)) (fun _ hk => hk.2) (.slice Ao13 t247.length co13)) (fun _ hk => hk.2) (.slice Ao17 t250.length co17)) (fun _ hk => hk.1.1.2), by (with_reducible repeat (first | apply Kd.R_alloc | apply Kd.R_drewN | apply Kd.R_drew)); exact Kd.R_mono (Kd.R_far (p := ⟨gb245, 2, none⟩) (Kd.R_far (p := ⟨gb245, 1, none⟩) (Kd.R_far (p := ⟨gb245, 0, none⟩) (Kd.R_far (p := ⟨gb246, 2, none⟩) (Kd.R_types (Kd.R_types HO252.out BK246.out (by decide)) BK245.out (by decide)) (fun _ hk => hk.1.2) (.slice Ao17 t250.length co17)) (fun _ hk => hk.2) (.bool a0_0)) (fun _ hk => hk.2) (.slice Ao13 t247.length co13)) (fun _ hk => hk.2) (.slice Ao17 t250.length co17)) (fun _ hk => hk.1.1.2), by repeat (first | (with_reducible first | exact HB.out | apply below_alloc | apply pw_below_drewN | apply below_drew1 | refine below_set ?_ GE244.out | refine below_set ?_ GE245.out | refine below_set ?_ GE246.out) | exact HB.out)⟩
end Go.Proofs.Ytedodaifpekahaa.P

end
section

namespace Go.Proofs.Ytedodaifpekahaa.P
open Go.RowKit Go.Proofs.YtedodaifpekahaaW.PrintWords Go.Proofs.YtedodaifpekahaaW.PrintLast Go.Proofs.YtedodaifpekahaaW.PrintMore
attribute [local go_sem] max2_int min2_int max_two min_two max_three min_three max_four min_four
set_option linter.unusedVariables false
set_option linter.unusedSimpArgs false
set_option maxHeartbeats 8000000 in
set_option maxRecDepth 100000 in
theorem laws_toShapeS.calls (k : Nat) (A0 : Option Addr) (c0 : Nat) (l0 : List (S111)) (r : List (S70)) (w : World) (hr0 : Kd.C k111 w A0 l0.length l0) (hc0 : l0.length ≤ c0) (h : laws_toShapeS.f k l0 = some r) :
    Calls Try.prog 60 #[.slice A0 l0.length c0] w fun e w' => ∃ v0_ : Value, e = .returned (v0_) ∧ Kd.S k70 70 w' w.heap.size (fun _ => True) v0_ r ∧ Below w.heap.size w w' := by
  have hu111 := Try.underlying111
  have hu70 := Try.underlying70
  have HR0 := Aside0.mk hr0
  have HC0 := Aside0.mk hc0
  clear hr0 hc0
  have HB := Aside0.mk (Below.refl w.heap.size w)
  have H : (if 0 ≤ (l0.length : Int) then (if ((l0.length : Int) : Int).toNat ≤ 5026338869833 then (laws_toShapeS.l0 k l0 (List.replicate ((l0.length : Int) : Int).toNat z70) 0) else (none)) else (none)) = some r := h
  clear h
  by_cases c2 : 0 ≤ (l0.length : Int)
  · rw [if_pos c2] at H
    have c2b0 := eq_true c2
    have c2b1 : decide (0 ≤ (l0.length : Int)) = true := decide_eq_true c2
    clear c2
    by_cases c3 : ((l0.length : Int) : Int).toNat ≤ 5026338869833
    · rw [if_pos c3] at H
      have c3b0 := eq_true c3
      have c3b1 : decide (((l0.length : Int) : Int).toNat ≤ 5026338869833) = true := decide_eq_true c3
      clear c3
      obtain ⟨y253, hy253⟩ : ∃ y_ : List (S70), y_ = (List.replicate ((l0.length : Int) : Int).toNat z70) := ⟨_, rfl⟩
      replace H : (laws_toShapeS.l0 k l0 y253 0) = some r := by first | (rw [hy253]; with_reducible exact H) | (have H2_ := (Option.bind_some _ _).symm.trans H; rw [hy253]; with_reducible exact H2_) | (have H2_ := (Option.bind_some _ _).symm.trans H; with_reducible exact H2_) | with_reducible exact H | (rw [hy253]; exact H) | exact H
      have Ny253 := Aside0.mk hy253
      clear hy253
      have H' := Aside0.mk H
      clear H
      go_enter Try.func60, Try.ntmps60
      go_wp2_with (first | ((with_reducible refine gate_dst (N := 7) rfl ?_); refine Kd.S_make k70 _ 70 rfl (N := 7) rfl 43 _ _ rfl (l0.length : Int) rfl rfl Try.underlying43 (.agg #[(.bool false), (.slice none 0 0), (.slice none 0 0)]) 56 info70 rfl (by decide) (by omega) z70 (ok := fun _ => True) (okp := fun _ => True) (k70_mkM _ _ _ z70 (Kd.R_nil _ _ _ _ _) (Kd.R_nil _ _ _ _ _)) (fun _ hk => hk) trivial (of_decide_eq_true (by first | (with_reducible assumption) | assumption)) (Nat.le_trans (Nat.mul_le_mul_right _ (of_decide_eq_true (by first | (with_reducible assumption) | assumption) : (l0.length : Int).toNat ≤ 5026338869833)) (by omega)) (Below.refl _ _) (Nat.le_refl _) ?_; intro v254 w4 ho5 hb hg_ hnew_; clear hg_ hnew_; (first | rw [← Ny253.out] at ho5 | (simp only [Int.reduceToNat] at ho5; rw [← Ny253.out] at ho5)); have n0_ := Aside0.mk (Kd.S_lower ho5 (below_size (by repeat (first | (with_reducible first | exact HB.out | apply below_alloc | apply pw_below_drewN | apply below_drew1) | exact HB.out)))); have n1_ := Aside0.mk (below_step (by repeat (first | (with_reducible first | exact HB.out | apply below_alloc | apply pw_below_drewN | apply below_drew1) | exact HB.out)) hb); clear HB; have HO255 := n0_; have HB := n1_; clear n0_ n1_; clear hb ho5))
      go_loopg [4] k (fun kq v4 w' => ∃ (x3_1 : List (S70)) (x4_1 : Int), v4 = .int .i64 x4_1 ∧ Aside0 (laws_toShapeS.l0 kq l0 x3_1 x4_1 = some r) ∧ Aside0 (kq ≤ k) ∧ Aside0 (Kd.S k70 70 w' w.heap.size (fun _ => True) v254 x3_1) ∧ Aside0 (Below w.heap.size w w'))
      case atStart => exact ⟨(y253), (0), (by first | rfl | (simp; done) | (simp [*]; done)), H', ⟨Nat.le_refl _⟩, ⟨by (with_reducible repeat (first | apply Kd.S_alloc | apply Kd.S_drewN | apply Kd.S_drew)); exact HO255.out⟩, ⟨by repeat (first | (with_reducible first | exact HB.out | apply below_alloc | apply pw_below_drewN | apply below_drew1) | exact HB.out)⟩⟩
      case round =>
        clear H'
        try clear c2
        try clear c2b0
        try clear c2b1
        try clear p2
        try clear c3
        try clear c3b0
        try clear c3b1
        obtain ⟨x3_1, x4_1, rfl, HA, HK1, HO_3, HB⟩ := hrel
        cases gk with
        | zero => exact absurd HA.out (by simp [laws_toShapeS.l0])
        | succ k1 =>
          have H := HA.out
          clear HA
          simp only [laws_toShapeS.l0] at H
          by_cases c6 : x4_1 < (l0.length : Int)
          · rw [if_pos c6] at H
            have c6b0 : decide (x4_1 < (l0.length : Int)) = true := decide_eq_true c6
            clear c6
            by_cases c7 : 0 ≤ x4_1
            · rw [if_pos c7] at H
              have c7b0 : decide (0 ≤ x4_1) = true := decide_eq_true c7
              clear c7
              replace H := Option.bind_eq_some_iff.mp H
              obtain ⟨⟨t257, t258, t261⟩, A80, H⟩ := H
              replace H : (if x4_1 < (x3_1.length : Int) then (laws_toShapeS.l0 k1 l0 (x3_1.set (x4_1 : Int).toNat (⟨t257, t258, t261⟩ : S70)) (wrap64 (x4_1 + 1))) else (none)) = some r := H
              have A8 := Aside0.mk A80
              clear A80
              by_cases c9 : x4_1 < (x3_1.length : Int)
              · rw [if_pos c9] at H
                have c9b0 : decide (x4_1 < (x3_1.length : Int)) = true := decide_eq_true c9
                clear c9
                obtain ⟨y264, hy264⟩ : ∃ y_ : List (S70), y_ = (x3_1.set (x4_1 : Int).toNat (⟨t257, t258, t261⟩ : S70)) := ⟨_, rfl⟩
                replace H : (laws_toShapeS.l0 k1 l0 y264 (wrap64 (x4_1 + 1))) = some r := by first | (rw [hy264]; with_reducible exact H) | (have H2_ := (Option.bind_some _ _).symm.trans H; rw [hy264]; with_reducible exact H2_) | (have H2_ := (Option.bind_some _ _).symm.trans H; with_reducible exact H2_) | with_reducible exact H | (rw [hy264]; exact H) | exact H
                have Ny264 := Aside0.mk hy264
                clear hy264
                have H' := Aside0.mk H
                clear H
                have p256 : 0 ≤ (x4_1 : Int) := of_decide_eq_true (by first | (with_reducible assumption) | assumption)
                have q256 : x4_1 < (l0.length : Int) := of_decide_eq_true (by first | (with_reducible assumption) | assumption)
                obtain ⟨ad256, A256_1, c256_1, A256_2, c256_2, e256, hx256_0, hx256_1, hx256_2, hl256_1, hi256_1, hl256_2, hi256_2⟩ := at_T111 HR0.out x4_1 p256 q256
                cases e256
                replace hx256_0 := (HB.out.cell (World.block_lt_of_cell? w _ hx256_0)).trans hx256_0
                replace hx256_1 := (HB.out.cell (World.block_lt_of_cell? w _ hx256_1)).trans hx256_1
                replace hx256_2 := (HB.out.cell (World.block_lt_of_cell? w _ hx256_2)).trans hx256_2
                have HR256_1 := Aside0.mk hi256_1
                have HC256_1 := Aside0.mk hl256_1
                clear hi256_1 hl256_1
                have HR256_2 := Aside0.mk hi256_2
                have HC256_2 := Aside0.mk hl256_2
                clear hi256_2 hl256_2
                replace p256 := eq_true p256
                replace q256 := eq_true q256
                go_wp2_with (first | ((with_reducible refine gate_callee (f := 71) rfl ?_); refine goesL_ (some 20) rfl rfl Try.func71 (by kernel_rfl) rfl #[.agg #[.bool ((rd_T111 l0 x4_1).f0), .slice A256_1 ((rd_T111 l0 x4_1).f1).length c256_1, .slice A256_2 ((rd_T111 l0 x4_1).f2).length c256_2]] rfl (by (try simp only [List.map_toArray, List.map_cons, List.map_nil]); first | done | rfl | (simp only [List.length_drop, List.length_take]; rfl)) ?_; (with_reducible refine (laws_toShape.calls k1 ((rd_T111 l0 x4_1).f0) _ _ ((rd_T111 l0 x4_1).f1) _ _ ((rd_T111 l0 x4_1).f2) t257 t258 t261 _ ?side1 ?side2 ?side3 ?side4 A8.out).mono ?_); (case side1 => repeat (first | exact (Kd.C_below HR256_1.out HB.out) | (with_reducible refine Kd.C_alloc ?_ _) | (with_reducible refine Kd.C_drewN ?_ _) | (with_reducible refine Kd.C_drew ?_))); (case side2 => exact HC256_1.out); (case side3 => repeat (first | exact (Kd.C_below HR256_2.out HB.out) | (with_reducible refine Kd.C_alloc ?_ _) | (with_reducible refine Kd.C_drewN ?_ _) | (with_reducible refine Kd.C_drew ?_))); (case side4 => exact HC256_2.out); rintro e w11 ⟨v259, v262, rfl, ho0, ho1, hb⟩; refine ⟨_, rfl, ?_⟩; have n0_ := Aside0.mk (Kd.S_mono (Kd.S_told (Kd.S_told (Kd.S_old (by (with_reducible repeat (first | apply Kd.S_alloc | apply Kd.S_drewN | apply Kd.S_drew)); exact HO_3.out) hb) (Kd.R_base ho0)) (Kd.R_base ho1)) (fun _ h_ => h_.1)); have n1_ := Aside0.mk (Kd.R_lower ho0 (below_size (by repeat (first | (with_reducible first | exact HB.out | apply below_alloc | apply pw_below_drewN | apply below_drew1) | exact HB.out)))); have n2_ := Aside0.mk (Kd.R_lower ho1 (below_size (by repeat (first | (with_reducible first | exact HB.out | apply below_alloc | apply pw_below_drewN | apply below_drew1) | exact HB.out)))); have n3_ := Aside0.mk (below_step (by repeat (first | (with_reducible first | exact HB.out | apply below_alloc | apply pw_below_drewN | apply below_drew1) | exact HB.out)) hb); clear HO_3; clear HB; have HO_3 := n0_; have HO260 := n1_; have HO263 := n2_; have HB := n3_; clear n0_ n1_ n2_ n3_; (try clear hb); (try clear hb2); (try clear hk); (try clear hi); (try clear ho0); (try clear ho1); have p10 : 0 ≤ (x4_1 : Int) := of_decide_eq_true (by first | (with_reducible assumption) | assumption); have q10 : (x4_1 : Int) < ((x3_1.length : Int) : Int) := of_decide_eq_true (by first | (with_reducible assumption) | assumption); obtain ⟨go10, co10, eo10, gb10, gl10, cl10, HG10⟩ := Kd.S_form HO_3.out (by omega); (first | cases eo10 | (injection eo10 with ea_ en_ ec_; (first | subst ea_ | (injection ea_ with ea_; subst ea_)); subst ec_; clear en_)); have GB10 := Aside0.mk gb10; have GG10 := Aside0.mk HG10; clear gb10 gl10 HG10; obtain ⟨_, ce10, hcl10, hM10, hcc10, hfr10, _, _⟩ := Kd.S_elem HO_3.out z70 (x4_1 : Int) p10 q10; obtain ⟨ve10_1, ve10_2, rfl, ge10_1, ge10_2⟩ := k70_openM hM10; have hx10_0 : w11.cell? ⟨go10, (x4_1 : Int).toNat * 3, none⟩ = some (.bool ((rd_T70 x3_1 x4_1).f0)) := hcc10 0 _ rfl; have hx10_1 : w11.cell? ⟨go10, (x4_1 : Int).toNat * 3 + 1, none⟩ = some (ve10_1) := hcc10 1 _ rfl; have hx10_2 : w11.cell? ⟨go10, (x4_1 : Int).toNat * 3 + 2, none⟩ = some (ve10_2) := hcc10 2 _ rfl; have hf10_0 : w11.frozen? ⟨go10, (x4_1 : Int).toNat * 3, none⟩ = false := hfr10 0; have hf10_1 : w11.frozen? ⟨go10, (x4_1 : Int).toNat * 3 + 1, none⟩ = false := hfr10 1; have hf10_2 : w11.frozen? ⟨go10, (x4_1 : Int).toNat * 3 + 2, none⟩ = false := hfr10 2; clear hcl10 hcc10 hfr10 hM10; replace p10 := eq_true p10; replace q10 := eq_true q10; have n_ := Aside0.mk (Kd.S_mono (ok' := (fun k_ => some k_ ≠ (v259 : Value).ownBlock ∧ some k_ ≠ (v262 : Value).ownBlock)) HO_3.out (fun k_ hk => ⟨hk.1.2, hk.2⟩)); clear HO_3; have HO_3 := n_; clear n_; have HX12 := Aside0.mk (show Kd.S k70 70 w11 w.heap.size (fun k_ => ((fun _ => True)) k_ ∧ ¬ ((fun k_ => some k_ = (v259 : Value).ownBlock ∨ some k_ = (v262 : Value).ownBlock)) k_) (.slice (some ⟨go10, 0, none⟩) x3_1.length co10) x3_1 from (by (with_reducible repeat (first | apply Kd.S_alloc | apply Kd.S_drewN | apply Kd.S_drew)); exact Kd.S_mono HO_3.out (fun k_ hk => ⟨trivial, fun e_ => e_.elim (fun h_ => hk.1 h_) (fun h_ => hk.2 h_)⟩))); obtain ⟨oki12, ce12, hcl12, hM12, hcc12, hfr12, hoki12, hH12⟩ := Kd.S_elem HX12.out z70 (x4_1 : Int) (of_decide_eq_true (by first | (with_reducible assumption) | assumption)) (by have h_ : (x4_1 : Int) < ((x3_1.length : Int) : Int) := of_decide_eq_true (by first | (with_reducible assumption) | assumption); first | exact h_ | (have e_ := (Kd.S_reads' HO_3.out).1; omega) | simpa using h_); obtain ⟨ve12_1, ve12_2, rfl, ge12_1, ge12_2⟩ := k70_openM hM12; have HP12 := Kd.S_seg hH12 (of_decide_eq_true (by first | (with_reducible assumption) | assumption)) (by have h_ : (x4_1 : Int) < ((x3_1.length : Int) : Int) := of_decide_eq_true (by first | (with_reducible assumption) | assumption); first | exact h_ | (have e_ := (Kd.S_reads' HO_3.out).1; omega) | simpa using h_) (seg := [.bool t257, v259, v262]) (j := 0) (show 3 ≤ 3 from by decide) (x' := (⟨t257, t258, t261⟩ : S70)) (k70_mkM _ _ _ (⟨t257, t258, t261⟩ : S70) (Kd.R_mono (Kd.R_tight rfl (Kd.R_mono (ok' := fun k_ => ((fun _ => True)) k_ ∧ k_ ≠ go10) (Kd.R_apart' (HO260.out) (Kd.S_typed HO_3.out) (by decide)) (fun k_ hk => ⟨trivial, fun e_ => (hk.2) (by rw [e_]; rfl)⟩))) (fun _ h_ => Or.inr (Or.inl h_))) (Kd.R_mono (Kd.R_tight rfl (Kd.R_mono (ok' := fun k_ => ((fun _ => True)) k_ ∧ k_ ≠ go10) (Kd.R_apart' (HO263.out) (Kd.S_typed HO_3.out) (by decide)) (fun k_ hk => ⟨trivial, fun e_ => (hk.2) (by rw [e_]; rfl)⟩))) (fun _ h_ => Or.inr (Or.inr (h_))))) (fun _ hk => hk) (fun k_ hk_ => hk_.elim (fun h_ => ((Kd.R_mono (ok' := fun k_ => ((fun _ => True)) k_ ∧ k_ ≠ go10) (Kd.R_apart' (HO260.out) (Kd.S_typed HO_3.out) (by decide)) (fun k_ hk => ⟨trivial, fun e_ => (hk.2) (by rw [e_]; rfl)⟩))).1 k_ h_.symm) (fun h_ => ((Kd.R_mono (ok' := fun k_ => ((fun _ => True)) k_ ∧ k_ ≠ go10) (Kd.R_apart' (HO263.out) (Kd.S_typed HO_3.out) (by decide)) (fun k_ hk => ⟨trivial, fun e_ => (hk.2) (by rw [e_]; rfl)⟩))).1 k_ h_.symm)); have hx12_0 := hcc12 0 _ rfl; (try simp only [show (k70).sz = 3 from rfl, Nat.mul_one, Nat.add_zero] at hx12_0); have hf12_0 := hfr12 0; (try simp only [show (k70).sz = 3 from rfl, Nat.mul_one, Nat.add_zero] at hf12_0); have hx12_1 := hcc12 1 _ rfl; (try simp only [show (k70).sz = 3 from rfl, Nat.mul_one, Nat.add_zero] at hx12_1); have hf12_1 := hfr12 1; (try simp only [show (k70).sz = 3 from rfl, Nat.mul_one, Nat.add_zero] at hf12_1); have hx12_2 := hcc12 2 _ rfl; (try simp only [show (k70).sz = 3 from rfl, Nat.mul_one, Nat.add_zero] at hx12_2); have hf12_2 := hfr12 2; (try simp only [show (k70).sz = 3 from rfl, Nat.mul_one, Nat.add_zero] at hf12_2); clear hcl12 hcc12 hfr12 hM12 hoki12 hH12) | ((with_reducible refine gate_store (t := 70) (p := 21) rfl ?_); refine store_event (t := 70) (p := 21) (v := ?vo_w13) (w1 := (((w11.setCell ⟨go10, (x4_1 : Int).toNat * 3, none⟩ (.bool t257)).setCell ⟨go10, (x4_1 : Int).toNat * 3 + 1, none⟩ (v259)).setCell ⟨go10, (x4_1 : Int).toNat * 3 + 2, none⟩ (v262))) ?hg ?ho ?hn ?hr ?_; (case ho => rfl); (case hg => rfl); (case hn => rfl); (case hr => first | (go_simp; done) | (go_simp; rfl) | (obtain ⟨_, _, rfl⟩ := Kd.R_slice HO260.out; obtain ⟨_, _, rfl⟩ := Kd.R_slice HO263.out; first | (go_simp; done) | (go_simp; rfl))); intro w13 hw; have hg : w11.grownBy w13 (some go10) := (by rw [hw]; exact HP12.2); have hp_ : Kd.S k70 70 w13 w.heap.size (fun _ => True) (.slice (some ⟨go10, 0, none⟩) x3_1.length co10) y264 := (by rw [hw, Ny264.out]; exact HP12.1); clear HP12; have n0_ := Aside0.mk (hp_); have n1_ := Aside0.mk ((by rw [hw]; exact below_set (below_set (below_set (HB.out) GB10.out) GB10.out) GB10.out : Below w.heap.size w w13)); clear HO_3; clear HB; clear HO260; clear HO263; have HO_3 := n0_; have HB := n1_; clear n0_ n1_; clear hg hw hp_))
                go_roundg k1
                case measure => have := HK1.out; omega
                case rel => exact ⟨(y264), (wrap64 (x4_1 + 1)), (by first | rfl | (simp; done) | (simp [*]; done)), H', ⟨by have := HK1.out; omega⟩, ⟨by (with_reducible repeat (first | apply Kd.S_alloc | apply Kd.S_drewN | apply Kd.S_drew)); exact HO_3.out⟩, ⟨by repeat (first | (with_reducible first | exact HB.out | apply below_alloc | apply pw_below_drewN | apply below_drew1) | exact HB.out)⟩⟩
              · rw [if_neg c9] at H
                exact absurd H (by simp)
            · rw [if_neg c7] at H
              exact absurd H (by simp)
          · rw [if_neg c6] at H
            have c6b0 : decide (x4_1 < (l0.length : Int)) = false := decide_eq_false c6
            clear c6
            obtain rfl := Option.some.inj H
            simp only [Option.some.injEq, Prod.mk.injEq] at H
            obtain ⟨rfl⟩ := H
            go_wp2
            go_ret
            exact ⟨_, by first | rfl | (simp [errW_none, errW_some] <;> rfl) | (simp [*, errW_none, errW_some] <;> rfl), by (with_reducible repeat (first | apply Kd.S_alloc | apply Kd.S_drewN | apply Kd.S_drew)); exact HO_3.out, by repeat (first | (with_reducible first | exact HB.out | apply below_alloc | apply pw_below_drewN | apply below_drew1) | exact HB.out)⟩
    · rw [if_neg c3] at H
      exact absurd H (by simp)
  · rw [if_neg c2] at H
    exact absurd H (by simp)
end Go.Proofs.Ytedodaifpekahaa.P

end
section

namespace Go.Proofs.Ytedodaifpekahaa.P
open Go.RowKit Go.Proofs.YtedodaifpekahaaW.PrintWords Go.Proofs.YtedodaifpekahaaW.PrintLast Go.Proofs.YtedodaifpekahaaW.PrintMore
attribute [local go_sem] max2_int min2_int max_two min_two max_three min_three max_four min_four
set_option linter.unusedVariables false
set_option linter.unusedSimpArgs false
set_option maxHeartbeats 8000000 in
set_option maxRecDepth 100000 in
theorem laws_toCatch.calls (a0_0 : Int) (a0_1 : Int) (a0_2 : Int) (a0_3 : Int) (r1 : Int) (r2 : Int) (r3 : Int) (r4 : Int) (w : World) (h : laws_toCatch.f a0_0 a0_1 a0_2 a0_3 = some (r1, r2, r3, r4)) :
    Calls Try.prog 72 #[.agg #[.int .i64 a0_0, .int .i64 a0_1, .int .i64 a0_2, .int .i64 a0_3]] w fun e w' => e = .returned (.agg #[.int .i64 r1, .int .i64 r2, .int .i64 r3, .int .i64 r4]) ∧ Below w.heap.size w w' := by
  have hu116 := Try.underlying116
  have hu73 := Try.underlying73
  have HB := Aside0.mk (Below.refl w.heap.size w)
  have H : (some (a0_0, a0_1, a0_2, a0_3)) = some (r1, r2, r3, r4) := h
  clear h
  simp only [Option.some.injEq, Prod.mk.injEq] at H
  obtain ⟨rfl, rfl, rfl, rfl⟩ := H
  go_enter Try.func72, Try.ntmps72
  go_wp2_with (first | ((with_reducible refine gate_dst (N := 1) rfl ?_); refine box_event ?hg (N := 1) ?hd (cs := #[.int .i64 a0_0, .int .i64 a0_1, .int .i64 a0_2, .int .i64 a0_3]) (t := 116) ?hr ?_; (case hd => rfl); (case hg => rfl); (case hr => first | (go_simp; done) | (go_simp; rfl)); intro gb265 hg w2 hbox hb; have n0_ := Aside0.mk (below_step (by repeat (first | (with_reducible first | exact HB.out | apply below_alloc | apply pw_below_drewN | apply below_drew1) | exact HB.out)) hb); have n1_ := Aside0.mk (hbox); have n2_ := Aside0.mk ((by rw [hg]; exact (below_size (by repeat (first | (with_reducible first | exact HB.out | apply below_alloc | apply pw_below_drewN | apply below_drew1) | exact HB.out))) : w.heap.size ≤ gb265)); have n3_ := Aside0.mk ((by rw [hg]; exact (below_size (by repeat (first | (with_reducible first | exact HB.out | apply below_alloc | apply pw_below_drewN | apply below_drew1) | exact HB.out))) : w.heap.size ≤ gb265)); clear HB; have HB := n0_; have BK265 := n1_; have GW265 := n2_; have GE265 := n3_; clear n0_ n1_ n2_ n3_; clear hb hbox hg) | ((with_reducible refine gate_dst (N := 2) rfl ?_); refine box_event ?hg (N := 2) ?hd (cs := #[.int .i64 0, .int .i64 0, .int .i64 0, .int .i64 0]) (t := 73) ?hr ?_; (case hd => rfl); (case hg => rfl); (case hr => first | (go_simp; done) | (go_simp; rfl)); intro gb266 hg w3 hbox hb; have n0_ := Aside0.mk (blk_below (g := gb265) (o := .cells #[.int .i64 a0_0, .int .i64 a0_1, .int .i64 a0_2, .int .i64 a0_3] 116 (0, 0)) (by (with_reducible repeat (first | refine blk_drewN ?_ _ | refine blk_drew ?_ | refine blk_alloc ?_ _)); exact BK265.out) hb); have n1_ := Aside0.mk (below_step (by repeat (first | (with_reducible first | exact HB.out | apply below_alloc | apply pw_below_drewN | apply below_drew1 | refine below_set ?_ GE265.out) | exact HB.out)) hb); have n2_ := Aside0.mk (hbox); have n3_ := Aside0.mk ((by rw [hg]; exact (below_size (by repeat (first | (with_reducible first | exact HB.out | apply below_alloc | apply pw_below_drewN | apply below_drew1 | refine below_set ?_ GE265.out) | exact HB.out))) : w.heap.size ≤ gb266)); have n4_ := Aside0.mk ((by rw [hg]; exact (below_size (by repeat (first | (with_reducible first | exact HB.out | apply below_alloc | apply pw_below_drewN | apply below_drew1 | refine below_set ?_ GE265.out) | exact HB.out))) : w.heap.size ≤ gb266)); have n5_ := Aside0.mk ((by rw [hg]; exact Nat.ne_of_lt (blk_lt (g := gb265) (o := .cells #[.int .i64 a0_0, .int .i64 a0_1, .int .i64 a0_2, .int .i64 a0_3] 116 (0, 0)) (by (with_reducible repeat (first | refine blk_drewN ?_ _ | refine blk_drew ?_ | refine blk_alloc ?_ _)); exact BK265.out)) : gb265 ≠ gb266)); have n6_ := Aside0.mk ((by rw [hg]; exact Nat.ne_of_gt (blk_lt (g := gb265) (o := .cells #[.int .i64 a0_0, .int .i64 a0_1, .int .i64 a0_2, .int .i64 a0_3] 116 (0, 0)) (by (with_reducible repeat (first | refine blk_drewN ?_ _ | refine blk_drew ?_ | refine blk_alloc ?_ _)); exact BK265.out)) : gb266 ≠ gb265)); clear BK265; clear HB; have BK265 := n0_; have HB := n1_; have BK266 := n2_; have GW266 := n3_; have GE266 := n4_; have NB265_266 := n5_; have NB266_265 := n6_; clear n0_ n1_ n2_ n3_ n4_ n5_ n6_; clear hb hbox hg) | ((with_reducible refine gate_dst (N := 3) rfl ?_); refine box_event ?hg (N := 3) ?hd (cs := #[.int .i64 0, .int .i64 0, .int .i64 0, .int .i64 0]) (t := 73) ?hr ?_; (case hd => rfl); (case hg => rfl); (case hr => first | (go_simp; done) | (go_simp; rfl)); intro gb267 hg w4 hbox hb; have n0_ := Aside0.mk (blk_below (g := gb265) (o := .cells #[.int .i64 a0_0, .int .i64 a0_1, .int .i64 a0_2, .int .i64 a0_3] 116 (0, 0)) (by (with_reducible repeat (first | refine blk_drewN ?_ _ | refine blk_drew ?_ | refine blk_alloc ?_ _)); exact BK265.out) hb); have n1_ := Aside0.mk (blk_below (g := gb266) (o := .cells #[.int .i64 0, .int .i64 0, .int .i64 0, .int .i64 0] 73 (0, 0)) (by (with_reducible repeat (first | refine blk_drewN ?_ _ | refine blk_drew ?_ | refine blk_alloc ?_ _)); exact BK266.out) hb); have n2_ := Aside0.mk (below_step (by repeat (first | (with_reducible first | exact HB.out | apply below_alloc | apply pw_below_drewN | apply below_drew1 | refine below_set ?_ GE265.out | refine below_set ?_ GE266.out) | exact HB.out)) hb); have n3_ := Aside0.mk (hbox); have n4_ := Aside0.mk ((by rw [hg]; exact (below_size (by repeat (first | (with_reducible first | exact HB.out | apply below_alloc | apply pw_below_drewN | apply below_drew1 | refine below_set ?_ GE265.out | refine below_set ?_ GE266.out) | exact HB.out))) : w.heap.size ≤ gb267)); have n5_ := Aside0.mk ((by rw [hg]; exact (below_size (by repeat (first | (with_reducible first | exact HB.out | apply below_alloc | apply pw_below_drewN | apply below_drew1 | refine below_set ?_ GE265.out | refine below_set ?_ GE266.out) | exact HB.out))) : w.heap.size ≤ gb267)); have n6_ := Aside0.mk ((by rw [hg]; exact Nat.ne_of_lt (blk_lt (g := gb265) (o := .cells #[.int .i64 a0_0, .int .i64 a0_1, .int .i64 a0_2, .int .i64 a0_3] 116 (0, 0)) (by (with_reducible repeat (first | refine blk_drewN ?_ _ | refine blk_drew ?_ | refine blk_alloc ?_ _)); exact BK265.out)) : gb265 ≠ gb267)); have n7_ := Aside0.mk ((by rw [hg]; exact Nat.ne_of_gt (blk_lt (g := gb265) (o := .cells #[.int .i64 a0_0, .int .i64 a0_1, .int .i64 a0_2, .int .i64 a0_3] 116 (0, 0)) (by (with_reducible repeat (first | refine blk_drewN ?_ _ | refine blk_drew ?_ | refine blk_alloc ?_ _)); exact BK265.out)) : gb267 ≠ gb265)); have n8_ := Aside0.mk ((by rw [hg]; exact Nat.ne_of_lt (blk_lt (g := gb266) (o := .cells #[.int .i64 0, .int .i64 0, .int .i64 0, .int .i64 0] 73 (0, 0)) (by (with_reducible repeat (first | refine blk_drewN ?_ _ | refine blk_drew ?_ | refine blk_alloc ?_ _)); exact BK266.out)) : gb266 ≠ gb267)); have n9_ := Aside0.mk ((by rw [hg]; exact Nat.ne_of_gt (blk_lt (g := gb266) (o := .cells #[.int .i64 0, .int .i64 0, .int .i64 0, .int .i64 0] 73 (0, 0)) (by (with_reducible repeat (first | refine blk_drewN ?_ _ | refine blk_drew ?_ | refine blk_alloc ?_ _)); exact BK266.out)) : gb267 ≠ gb266)); clear BK265; clear BK266; clear HB; have BK265 := n0_; have BK266 := n1_; have HB := n2_; have BK267 := n3_; have GW267 := n4_; have GE267 := n5_; have NB265_267 := n6_; have NB267_265 := n7_; have NB266_267 := n8_; have NB267_266 := n9_; clear n0_ n1_ n2_ n3_ n4_ n5_ n6_ n7_ n8_ n9_; clear hb hbox hg; have hnb5 := NB265_266.out; have hnc5 := NB266_265.out; have hnb6 := NB265_267.out; have hnc6 := NB267_265.out; have hcz7_0 : w4.cell? ⟨gb265, 0, none⟩ = some (.int .i64 a0_0) := (blk_cell BK265.out 0).trans rfl; have hcz7_1 : w4.cell? ⟨gb265, 1, none⟩ = some (.int .i64 a0_1) := (blk_cell BK265.out 1).trans rfl; have hcz7_2 : w4.cell? ⟨gb265, 2, none⟩ = some (.int .i64 a0_2) := (blk_cell BK265.out 2).trans rfl; have hcz7_3 : w4.cell? ⟨gb265, 3, none⟩ = some (.int .i64 a0_3) := (blk_cell BK265.out 3).trans rfl; have hfz7_0 := blk_frozen BK265.out 0; have hfz7_1 := blk_frozen BK265.out 1; have hfz7_2 := blk_frozen BK265.out 2; have hfz7_3 := blk_frozen BK265.out 3; have hnb8 := NB267_266.out; have hnc8 := NB266_267.out; have hcz9_0 : w4.cell? ⟨gb267, 0, none⟩ = some (.int .i64 0) := (blk_cell BK267.out 0).trans rfl; have hcz9_1 : w4.cell? ⟨gb267, 1, none⟩ = some (.int .i64 0) := (blk_cell BK267.out 1).trans rfl; have hcz9_2 : w4.cell? ⟨gb267, 2, none⟩ = some (.int .i64 0) := (blk_cell BK267.out 2).trans rfl; have hcz9_3 : w4.cell? ⟨gb267, 3, none⟩ = some (.int .i64 0) := (blk_cell BK267.out 3).trans rfl; have hfz9_0 := blk_frozen BK267.out 0; have hfz9_1 := blk_frozen BK267.out 1; have hfz9_2 := blk_frozen BK267.out 2; have hfz9_3 := blk_frozen BK267.out 3; have hcz10_0 : w4.cell? ⟨gb266, 0, none⟩ = some (.int .i64 0) := (blk_cell BK266.out 0).trans rfl; have hcz10_1 : w4.cell? ⟨gb266, 1, none⟩ = some (.int .i64 0) := (blk_cell BK266.out 1).trans rfl; have hcz10_2 : w4.cell? ⟨gb266, 2, none⟩ = some (.int .i64 0) := (blk_cell BK266.out 2).trans rfl; have hcz10_3 : w4.cell? ⟨gb266, 3, none⟩ = some (.int .i64 0) := (blk_cell BK266.out 3).trans rfl; have hfz10_0 := blk_frozen BK266.out 0; have hfz10_1 := blk_frozen BK266.out 1; have hfz10_2 := blk_frozen BK266.out 2; have hfz10_3 := blk_frozen BK266.out 3))
  refine bodyPost_ret (results_cell_row rfl _ _ gb266 73 #[.int .i64 a0_0, .int .i64 a0_1, .int .i64 a0_2, .int .i64 a0_3] (0, 0) _ rfl (by (with_reducible repeat (first | refine blk_drewN ?_ _ | refine blk_drew ?_ | refine blk_alloc ?_ _)); refine blk_put (cs := #[.int .i64 a0_0, .int .i64 a0_1, .int .i64 a0_2, .int .i64 0]) ?_ 3 _ rfl; (with_reducible repeat (first | refine blk_drewN ?_ _ | refine blk_drew ?_ | refine blk_alloc ?_ _)); refine blk_put (cs := #[.int .i64 a0_0, .int .i64 a0_1, .int .i64 0, .int .i64 0]) ?_ 2 _ rfl; (with_reducible repeat (first | refine blk_drewN ?_ _ | refine blk_drew ?_ | refine blk_alloc ?_ _)); refine blk_put (cs := #[.int .i64 a0_0, .int .i64 0, .int .i64 0, .int .i64 0]) ?_ 1 _ rfl; (with_reducible repeat (first | refine blk_drewN ?_ _ | refine blk_drew ?_ | refine blk_alloc ?_ _)); refine blk_put (cs := #[.int .i64 0, .int .i64 0, .int .i64 0, .int .i64 0]) ?_ 0 _ rfl; (with_reducible repeat (first | refine blk_drewN ?_ _ | refine blk_drew ?_ | refine blk_alloc ?_ _)); refine blk_far ?_ NB266_267.out _; (with_reducible repeat (first | refine blk_drewN ?_ _ | refine blk_drew ?_ | refine blk_alloc ?_ _)); refine blk_far ?_ NB266_267.out _; (with_reducible repeat (first | refine blk_drewN ?_ _ | refine blk_drew ?_ | refine blk_alloc ?_ _)); refine blk_far ?_ NB266_267.out _; (with_reducible repeat (first | refine blk_drewN ?_ _ | refine blk_drew ?_ | refine blk_alloc ?_ _)); refine blk_far ?_ NB266_267.out _; (with_reducible repeat (first | refine blk_drewN ?_ _ | refine blk_drew ?_ | refine blk_alloc ?_ _)); exact BK266.out) Try.underlying73 rfl (by kernel_rfl)) rfl ?_
  exact ⟨by first | rfl | (simp [errW_none, errW_some] <;> rfl) | (simp [*, errW_none, errW_some] <;> rfl), by repeat (first | (with_reducible first | exact HB.out | apply below_alloc | apply pw_below_drewN | apply below_drew1 | refine below_set ?_ GE265.out | refine below_set ?_ GE266.out | refine below_set ?_ GE267.out) | exact HB.out)⟩
end Go.Proofs.Ytedodaifpekahaa.P

end
section

namespace Go.Proofs.Ytedodaifpekahaa.P
open Go.RowKit Go.Proofs.YtedodaifpekahaaW.PrintWords Go.Proofs.YtedodaifpekahaaW.PrintLast Go.Proofs.YtedodaifpekahaaW.PrintMore
attribute [local go_sem] max2_int min2_int max_two min_two max_three min_three max_four min_four
set_option linter.unusedVariables false
set_option linter.unusedSimpArgs false
set_option maxHeartbeats 8000000 in
set_option maxRecDepth 100000 in
theorem laws_toCatchS.calls (k : Nat) (A0 : Option Addr) (c0 : Nat) (l0 : List (S116)) (r : List (S73)) (w : World) (hr0 : Kd.C k116 w A0 l0.length l0) (hc0 : l0.length ≤ c0) (h : laws_toCatchS.f k l0 = some r) :
    Calls Try.prog 61 #[.slice A0 l0.length c0] w fun e w' => ∃ v0_ : Value, e = .returned (v0_) ∧ Kd.R k73 73 w' w.heap.size (fun _ => True) v0_ r ∧ Below w.heap.size w w' := by
  have hu116 := Try.underlying116
  have hu73 := Try.underlying73
  have HR0 := Aside0.mk hr0
  have HC0 := Aside0.mk hc0
  clear hr0 hc0
  have HB := Aside0.mk (Below.refl w.heap.size w)
  have H : (if 0 ≤ (l0.length : Int) then (if ((l0.length : Int) : Int).toNat ≤ 8796093022208 then (laws_toCatchS.l0 k l0 (List.replicate ((l0.length : Int) : Int).toNat z73) 0) else (none)) else (none)) = some r := h
  clear h
  by_cases c2 : 0 ≤ (l0.length : Int)
  · rw [if_pos c2] at H
    have c2b0 := eq_true c2
    have c2b1 : decide (0 ≤ (l0.length : Int)) = true := decide_eq_true c2
    clear c2
    by_cases c3 : ((l0.length : Int) : Int).toNat ≤ 8796093022208
    · rw [if_pos c3] at H
      have c3b0 := eq_true c3
      have c3b1 : decide (((l0.length : Int) : Int).toNat ≤ 8796093022208) = true := decide_eq_true c3
      clear c3
      obtain ⟨y268, hy268⟩ : ∃ y_ : List (S73), y_ = (List.replicate ((l0.length : Int) : Int).toNat z73) := ⟨_, rfl⟩
      replace H : (laws_toCatchS.l0 k l0 y268 0) = some r := by first | (rw [hy268]; with_reducible exact H) | (have H2_ := (Option.bind_some _ _).symm.trans H; rw [hy268]; with_reducible exact H2_) | (have H2_ := (Option.bind_some _ _).symm.trans H; with_reducible exact H2_) | with_reducible exact H | (rw [hy268]; exact H) | exact H
      have Ny268 := Aside0.mk hy268
      clear hy268
      have H' := Aside0.mk H
      clear H
      go_enter Try.func61, Try.ntmps61
      go_wp2_with (first | ((with_reducible refine gate_dst (N := 7) rfl ?_); refine Kd.R_make k73 _ 73 rfl (N := 7) rfl 44 _ _ rfl (l0.length : Int) rfl rfl Try.underlying44 (.agg #[(.int .i64 0), (.int .i64 0), (.int .i64 0), (.int .i64 0)]) 32 info73 rfl (by decide) (by omega) z73 (ok := fun _ => True) (okp := fun _ => True) (k73_mkM _ _ _ z73 ) (fun _ hk => hk) trivial (of_decide_eq_true (by first | (with_reducible assumption) | assumption)) (Nat.le_trans (Nat.mul_le_mul_right _ (of_decide_eq_true (by first | (with_reducible assumption) | assumption) : (l0.length : Int).toNat ≤ 8796093022208)) (by omega)) (Below.refl _ _) (Nat.le_refl _) ?_; intro v269 w4 ho5 hb hg_ hnew_; clear hg_ hnew_; (first | rw [← Ny268.out] at ho5 | (simp only [Int.reduceToNat] at ho5; rw [← Ny268.out] at ho5)); have n0_ := Aside0.mk (Kd.R_lower ho5 (below_size (by repeat (first | (with_reducible first | exact HB.out | apply below_alloc | apply pw_below_drewN | apply below_drew1) | exact HB.out)))); have n1_ := Aside0.mk (below_step (by repeat (first | (with_reducible first | exact HB.out | apply below_alloc | apply pw_below_drewN | apply below_drew1) | exact HB.out)) hb); clear HB; have HO270 := n0_; have HB := n1_; clear n0_ n1_; clear hb ho5))
      go_loopg [4] k (fun kq v4 w' => ∃ (x3_1 : List (S73)) (x4_1 : Int), v4 = .int .i64 x4_1 ∧ Aside0 (laws_toCatchS.l0 kq l0 x3_1 x4_1 = some r) ∧ Aside0 (kq ≤ k) ∧ Aside0 (Kd.R k73 73 w' w.heap.size (fun _ => True) v269 x3_1) ∧ Aside0 (Below w.heap.size w w'))
      case atStart => exact ⟨(y268), (0), (by first | rfl | (simp; done) | (simp [*]; done)), H', ⟨Nat.le_refl _⟩, ⟨by (with_reducible repeat (first | apply Kd.R_alloc | apply Kd.R_drewN | apply Kd.R_drew)); exact HO270.out⟩, ⟨by repeat (first | (with_reducible first | exact HB.out | apply below_alloc | apply pw_below_drewN | apply below_drew1) | exact HB.out)⟩⟩
      case round =>
        clear H'
        try clear c2
        try clear c2b0
        try clear c2b1
        try clear p2
        try clear c3
        try clear c3b0
        try clear c3b1
        obtain ⟨x3_1, x4_1, rfl, HA, HK1, HO_3, HB⟩ := hrel
        cases gk with
        | zero => exact absurd HA.out (by simp [laws_toCatchS.l0])
        | succ k1 =>
          have H := HA.out
          clear HA
          simp only [laws_toCatchS.l0] at H
          by_cases c6 : x4_1 < (l0.length : Int)
          · rw [if_pos c6] at H
            have c6b0 : decide (x4_1 < (l0.length : Int)) = true := decide_eq_true c6
            clear c6
            by_cases c7 : 0 ≤ x4_1
            · rw [if_pos c7] at H
              have c7b0 : decide (0 ≤ x4_1) = true := decide_eq_true c7
              clear c7
              replace H := Option.bind_eq_some_iff.mp H
              obtain ⟨⟨t272, t273, t274, t275⟩, A80, H⟩ := H
              replace H : (if x4_1 < (x3_1.length : Int) then (laws_toCatchS.l0 k1 l0 (x3_1.set (x4_1 : Int).toNat (⟨t272, t273, t274, t275⟩ : S73)) (wrap64 (x4_1 + 1))) else (none)) = some r := H
              have A8 := Aside0.mk A80
              clear A80
              by_cases c9 : x4_1 < (x3_1.length : Int)
              · rw [if_pos c9] at H
                have c9b0 : decide (x4_1 < (x3_1.length : Int)) = true := decide_eq_true c9
                clear c9
                obtain ⟨y276, hy276⟩ : ∃ y_ : List (S73), y_ = (x3_1.set (x4_1 : Int).toNat (⟨t272, t273, t274, t275⟩ : S73)) := ⟨_, rfl⟩
                replace H : (laws_toCatchS.l0 k1 l0 y276 (wrap64 (x4_1 + 1))) = some r := by first | (rw [hy276]; with_reducible exact H) | (have H2_ := (Option.bind_some _ _).symm.trans H; rw [hy276]; with_reducible exact H2_) | (have H2_ := (Option.bind_some _ _).symm.trans H; with_reducible exact H2_) | with_reducible exact H | (rw [hy276]; exact H) | exact H
                have Ny276 := Aside0.mk hy276
                clear hy276
                have H' := Aside0.mk H
                clear H
                have p271 : 0 ≤ (x4_1 : Int) := of_decide_eq_true (by first | (with_reducible assumption) | assumption)
                have q271 : x4_1 < (l0.length : Int) := of_decide_eq_true (by first | (with_reducible assumption) | assumption)
                obtain ⟨ad271, e271, hx271_0, hx271_1, hx271_2, hx271_3⟩ := at_T116 HR0.out x4_1 p271 q271
                cases e271
                replace hx271_0 := (HB.out.cell (World.block_lt_of_cell? w _ hx271_0)).trans hx271_0
                replace hx271_1 := (HB.out.cell (World.block_lt_of_cell? w _ hx271_1)).trans hx271_1
                replace hx271_2 := (HB.out.cell (World.block_lt_of_cell? w _ hx271_2)).trans hx271_2
                replace hx271_3 := (HB.out.cell (World.block_lt_of_cell? w _ hx271_3)).trans hx271_3
                replace p271 := eq_true p271
                replace q271 := eq_true q271
                go_wp2_with (first | ((with_reducible refine gate_callee (f := 72) rfl ?_); refine goesL_ (some 20) rfl rfl Try.func72 (by kernel_rfl) rfl #[.agg #[.int .i64 ((rd_T116 l0 x4_1).f0), .int .i64 ((rd_T116 l0 x4_1).f1), .int .i64 ((rd_T116 l0 x4_1).f2), .int .i64 ((rd_T116 l0 x4_1).f3)]] rfl (by (try simp only [List.map_toArray, List.map_cons, List.map_nil]); first | done | rfl | (simp only [List.length_drop, List.length_take]; rfl)) ?_; (with_reducible refine (laws_toCatch.calls ((rd_T116 l0 x4_1).f0) ((rd_T116 l0 x4_1).f1) ((rd_T116 l0 x4_1).f2) ((rd_T116 l0 x4_1).f3) t272 t273 t274 t275 _ A8.out).mono ?_); rintro e w11 ⟨rfl, hb⟩; refine ⟨_, rfl, ?_⟩; have n0_ := Aside0.mk (Kd.R_below (by (with_reducible repeat (first | apply Kd.R_alloc | apply Kd.R_drewN | apply Kd.R_drew)); exact HO_3.out) hb); have n1_ := Aside0.mk (below_step (by repeat (first | (with_reducible first | exact HB.out | apply below_alloc | apply pw_below_drewN | apply below_drew1) | exact HB.out)) hb); clear HO_3; clear HB; have HO_3 := n0_; have HB := n1_; clear n0_ n1_; (try clear hb); (try clear hb2); (try clear hk); (try clear hi); have p10 : 0 ≤ (x4_1 : Int) := of_decide_eq_true (by first | (with_reducible assumption) | assumption); have q10 : (x4_1 : Int) < ((x3_1.length : Int) : Int) := of_decide_eq_true (by first | (with_reducible assumption) | assumption); obtain ⟨go10, co10, eo10, gb10, gl10, cl10, HG10⟩ := Kd.R_form HO_3.out (by omega); (first | cases eo10 | (injection eo10 with ea_ en_ ec_; (first | subst ea_ | (injection ea_ with ea_; subst ea_)); subst ec_; clear en_)); have GB10 := Aside0.mk gb10; have GG10 := Aside0.mk HG10; clear gb10 gl10 HG10; obtain ⟨ce10, hcl10, hM10, hcc10, hfr10⟩ := Kd.R_elem HO_3.out z73 (x4_1 : Int) p10 q10; obtain rfl := k73_openM hM10; have hx10_0 : w11.cell? ⟨go10, (x4_1 : Int).toNat * 4, none⟩ = some (.int .i64 ((rd_T73 x3_1 x4_1).f0)) := hcc10 0 _ rfl; have hx10_1 : w11.cell? ⟨go10, (x4_1 : Int).toNat * 4 + 1, none⟩ = some (.int .i64 ((rd_T73 x3_1 x4_1).f1)) := hcc10 1 _ rfl; have hx10_2 : w11.cell? ⟨go10, (x4_1 : Int).toNat * 4 + 2, none⟩ = some (.int .i64 ((rd_T73 x3_1 x4_1).f2)) := hcc10 2 _ rfl; have hx10_3 : w11.cell? ⟨go10, (x4_1 : Int).toNat * 4 + 3, none⟩ = some (.int .i64 ((rd_T73 x3_1 x4_1).f3)) := hcc10 3 _ rfl; have hf10_0 : w11.frozen? ⟨go10, (x4_1 : Int).toNat * 4, none⟩ = false := hfr10 0; have hf10_1 : w11.frozen? ⟨go10, (x4_1 : Int).toNat * 4 + 1, none⟩ = false := hfr10 1; have hf10_2 : w11.frozen? ⟨go10, (x4_1 : Int).toNat * 4 + 2, none⟩ = false := hfr10 2; have hf10_3 : w11.frozen? ⟨go10, (x4_1 : Int).toNat * 4 + 3, none⟩ = false := hfr10 3; clear hcl10 hcc10 hfr10 hM10; replace p10 := eq_true p10; replace q10 := eq_true q10; have HX12 := Aside0.mk (show Kd.R k73 73 w11 w.heap.size (fun _ => True) (.slice (some ⟨go10, 0, none⟩) x3_1.length co10) x3_1 from (by (with_reducible repeat (first | apply Kd.R_alloc | apply Kd.R_drewN | apply Kd.R_drew)); exact HO_3.out)); obtain ⟨ce12, hcl12, hM12, hcc12, hfr12⟩ := Kd.R_elem HX12.out z73 (x4_1 : Int) (of_decide_eq_true (by first | (with_reducible assumption) | assumption)) (by have h_ : (x4_1 : Int) < ((x3_1.length : Int) : Int) := of_decide_eq_true (by first | (with_reducible assumption) | assumption); first | exact h_ | (have e_ := (Kd.R_reads' HO_3.out).1; omega) | simpa using h_); obtain rfl := k73_openM hM12; have HP12 := Kd.R_seg HX12.out (x4_1 : Int) (of_decide_eq_true (by first | (with_reducible assumption) | assumption)) (by have h_ : (x4_1 : Int) < ((x3_1.length : Int) : Int) := of_decide_eq_true (by first | (with_reducible assumption) | assumption); first | exact h_ | (have e_ := (Kd.R_reads' HO_3.out).1; omega) | simpa using h_) (seg := [.int .i64 t272, .int .i64 t273, .int .i64 t274, .int .i64 t275]) (j := 0) hcl12 hcc12 (show 4 ≤ 4 from by decide) (x' := (⟨t272, t273, t274, t275⟩ : S73)) (k73_mkM _ _ _ (⟨t272, t273, t274, t275⟩ : S73) ) (fun _ hk => hk); have hx12_0 := hcc12 0 _ rfl; (try simp only [show (k73).sz = 4 from rfl, Nat.mul_one, Nat.add_zero] at hx12_0); have hf12_0 := hfr12 0; (try simp only [show (k73).sz = 4 from rfl, Nat.mul_one, Nat.add_zero] at hf12_0); have hx12_1 := hcc12 1 _ rfl; (try simp only [show (k73).sz = 4 from rfl, Nat.mul_one, Nat.add_zero] at hx12_1); have hf12_1 := hfr12 1; (try simp only [show (k73).sz = 4 from rfl, Nat.mul_one, Nat.add_zero] at hf12_1); have hx12_2 := hcc12 2 _ rfl; (try simp only [show (k73).sz = 4 from rfl, Nat.mul_one, Nat.add_zero] at hx12_2); have hf12_2 := hfr12 2; (try simp only [show (k73).sz = 4 from rfl, Nat.mul_one, Nat.add_zero] at hf12_2); have hx12_3 := hcc12 3 _ rfl; (try simp only [show (k73).sz = 4 from rfl, Nat.mul_one, Nat.add_zero] at hx12_3); have hf12_3 := hfr12 3; (try simp only [show (k73).sz = 4 from rfl, Nat.mul_one, Nat.add_zero] at hf12_3); clear hcl12 hcc12 hfr12 hM12) | ((with_reducible refine gate_store (t := 73) (p := 21) rfl ?_); refine store_event (t := 73) (p := 21) (v := ?vo_w13) (w1 := ((((w11.setCell ⟨go10, (x4_1 : Int).toNat * 4, none⟩ (.int .i64 t272)).setCell ⟨go10, (x4_1 : Int).toNat * 4 + 1, none⟩ (.int .i64 t273)).setCell ⟨go10, (x4_1 : Int).toNat * 4 + 2, none⟩ (.int .i64 t274)).setCell ⟨go10, (x4_1 : Int).toNat * 4 + 3, none⟩ (.int .i64 t275))) ?hg ?ho ?hn ?hr ?_; (case ho => rfl); (case hg => rfl); (case hn => rfl); (case hr => first | (go_simp; done) | (go_simp; rfl)); intro w13 hw; have hg : w11.grownBy w13 (some go10) := (by rw [hw]; exact HP12.2); have hp_ : Kd.R k73 73 w13 w.heap.size (fun _ => True) (.slice (some ⟨go10, 0, none⟩) x3_1.length co10) y276 := (by rw [hw, Ny276.out]; exact HP12.1); clear HP12; have n0_ := Aside0.mk (hp_); have n1_ := Aside0.mk ((by rw [hw]; exact below_set (below_set (below_set (below_set (HB.out) GB10.out) GB10.out) GB10.out) GB10.out : Below w.heap.size w w13)); clear HO_3; clear HB; have HO_3 := n0_; have HB := n1_; clear n0_ n1_; clear hg hw hp_))
                go_roundg k1
                case measure => have := HK1.out; omega
                case rel => exact ⟨(y276), (wrap64 (x4_1 + 1)), (by first | rfl | (simp; done) | (simp [*]; done)), H', ⟨by have := HK1.out; omega⟩, ⟨by (with_reducible repeat (first | apply Kd.R_alloc | apply Kd.R_drewN | apply Kd.R_drew)); exact HO_3.out⟩, ⟨by repeat (first | (with_reducible first | exact HB.out | apply below_alloc | apply pw_below_drewN | apply below_drew1) | exact HB.out)⟩⟩
              · rw [if_neg c9] at H
                exact absurd H (by simp)
            · rw [if_neg c7] at H
              exact absurd H (by simp)
          · rw [if_neg c6] at H
            have c6b0 : decide (x4_1 < (l0.length : Int)) = false := decide_eq_false c6
            clear c6
            obtain rfl := Option.some.inj H
            simp only [Option.some.injEq, Prod.mk.injEq] at H
            obtain ⟨rfl⟩ := H
            go_wp2
            go_ret
            exact ⟨_, by first | rfl | (simp [errW_none, errW_some] <;> rfl) | (simp [*, errW_none, errW_some] <;> rfl), by (with_reducible repeat (first | apply Kd.R_alloc | apply Kd.R_drewN | apply Kd.R_drew)); exact HO_3.out, by repeat (first | (with_reducible first | exact HB.out | apply below_alloc | apply pw_below_drewN | apply below_drew1) | exact HB.out)⟩
    · rw [if_neg c3] at H
      exact absurd H (by simp)
  · rw [if_neg c2] at H
    exact absurd H (by simp)
end Go.Proofs.Ytedodaifpekahaa.P

end
section

namespace Go.Proofs.Ytedodaifpekahaa.P
open Go.RowKit Go.Proofs.YtedodaifpekahaaW.PrintWords Go.Proofs.YtedodaifpekahaaW.PrintLast Go.Proofs.YtedodaifpekahaaW.PrintMore
attribute [local go_sem] max2_int min2_int max_two min_two max_three min_three max_four min_four
set_option linter.unusedVariables false
set_option linter.unusedSimpArgs false
set_option maxHeartbeats 8000000 in
set_option maxRecDepth 100000 in
theorem laws_toMethod.calls (k : Nat) (a0_0 : Int) (a0_1 : Int) (A0_2 : Option Addr) (c0_2 : Nat) (l0_2 : List Int) (a0_3 : Int) (a0_4 : Int) (A0_5 : Option Addr) (c0_5 : Nat) (l0_5 : List (S113)) (A0_6 : Option Addr) (c0_6 : Nat) (l0_6 : List (S111)) (A0_7 : Option Addr) (c0_7 : Nat) (l0_7 : List (S116)) (r1 : Int) (r2 : Int) (r3 : List Int) (r4 : Int) (r5 : Int) (r6 : List (S67)) (r7 : List (S70)) (r8 : List (S73)) (w : World) (hr0_2 : Kd.C (Kd.int .i64) w A0_2 l0_2.length l0_2) (hc0_2 : l0_2.length ≤ c0_2) (hr0_5 : Kd.C k113 w A0_5 l0_5.length l0_5) (hc0_5 : l0_5.length ≤ c0_5) (hr0_6 : Kd.C k111 w A0_6 l0_6.length l0_6) (hc0_6 : l0_6.length ≤ c0_6) (hr0_7 : Kd.C k116 w A0_7 l0_7.length l0_7) (hc0_7 : l0_7.length ≤ c0_7) (h : laws_toMethod.f k a0_0 a0_1 l0_2 a0_3 a0_4 l0_5 l0_6 l0_7 = some (r1, r2, r3, r4, r5, r6, r7, r8)) :
    Calls Try.prog 41 #[.agg #[.int .i64 a0_0, .int .i64 a0_1, .slice A0_2 l0_2.length c0_2, .int .i64 a0_3, .int .i64 a0_4, .slice A0_5 l0_5.length c0_5, .slice A0_6 l0_6.length c0_6, .slice A0_7 l0_7.length c0_7]] w fun e w' => ∃ v2_ v5_ v6_ v7_ : Value, e = .returned (.agg #[.int .i64 r1, .int .i64 r2, v2_, .int .i64 r4, .int .i64 r5, v5_, v6_, v7_]) ∧ Kd.R (Kd.int .i64) 3 w' w.heap.size (fun _ => True) v2_ r3 ∧ Kd.R k67 67 w' w.heap.size (fun _ => True) v5_ r6 ∧ Kd.S k70 70 w' w.heap.size (fun k_ => some k_ ≠ (v2_ : Value).ownBlock) v6_ r7 ∧ Kd.R k73 73 w' w.heap.size (fun _ => True) v7_ r8 ∧ Below w.heap.size w w' := by
  have hu64 := Try.underlying64
  have hu46 := Try.underlying46
  have HR0_2 := Aside0.mk hr0_2
  have HC0_2 := Aside0.mk hc0_2
  clear hr0_2 hc0_2
  have HR0_5 := Aside0.mk hr0_5
  have HC0_5 := Aside0.mk hc0_5
  clear hr0_5 hc0_5
  have HR0_6 := Aside0.mk hr0_6
  have HC0_6 := Aside0.mk hc0_6
  clear hr0_6 hc0_6
  have HR0_7 := Aside0.mk hr0_7
  have HC0_7 := Aside0.mk hc0_7
  clear hr0_7 hc0_7
  have HB := Aside0.mk (Below.refl w.heap.size w)
  have H : ((laws_toIntS.f k l0_2).bind fun t280 => ((laws_toInsS.f k l0_5).bind fun t283 => ((laws_toShapeS.f k l0_6).bind fun t286 => ((laws_toCatchS.f k l0_7).bind fun t289 => (some (a0_0, a0_1, t280, a0_3, a0_4, t283, t286, t289)))))) = some (r1, r2, r3, r4, r5, r6, r7, r8) := h
  clear h
  replace H := Option.bind_eq_some_iff.mp H
  obtain ⟨t280, A20, H⟩ := H
  replace H : ((laws_toInsS.f k l0_5).bind fun t283 => ((laws_toShapeS.f k l0_6).bind fun t286 => ((laws_toCatchS.f k l0_7).bind fun t289 => (some (a0_0, a0_1, t280, a0_3, a0_4, t283, t286, t289))))) = some (r1, r2, r3, r4, r5, r6, r7, r8) := H
  have A2 := Aside0.mk A20
  clear A20
  replace H := Option.bind_eq_some_iff.mp H
  obtain ⟨t283, A30, H⟩ := H
  replace H : ((laws_toShapeS.f k l0_6).bind fun t286 => ((laws_toCatchS.f k l0_7).bind fun t289 => (some (a0_0, a0_1, t280, a0_3, a0_4, t283, t286, t289)))) = some (r1, r2, r3, r4, r5, r6, r7, r8) := H
  have A3 := Aside0.mk A30
  clear A30
  replace H := Option.bind_eq_some_iff.mp H
  obtain ⟨t286, A40, H⟩ := H
  replace H : ((laws_toCatchS.f k l0_7).bind fun t289 => (some (a0_0, a0_1, t280, a0_3, a0_4, t283, t286, t289))) = some (r1, r2, r3, r4, r5, r6, r7, r8) := H
  have A4 := Aside0.mk A40
  clear A40
  replace H := Option.bind_eq_some_iff.mp H
  obtain ⟨t289, A50, H⟩ := H
  replace H : (some (a0_0, a0_1, t280, a0_3, a0_4, t283, t286, t289)) = some (r1, r2, r3, r4, r5, r6, r7, r8) := H
  have A5 := Aside0.mk A50
  clear A50
  simp only [Option.some.injEq, Prod.mk.injEq] at H
  obtain ⟨rfl, rfl, rfl, rfl, rfl, rfl, rfl, rfl⟩ := H
  go_enter Try.func41, Try.ntmps41
  go_wp2_with (first | ((with_reducible refine gate_dst (N := 1) rfl ?_); refine box_event ?hg (N := 1) ?hd (cs := #[.int .i64 a0_0, .int .i64 a0_1, .slice A0_2 l0_2.length c0_2, .int .i64 a0_3, .int .i64 a0_4, .slice A0_5 l0_5.length c0_5, .slice A0_6 l0_6.length c0_6, .slice A0_7 l0_7.length c0_7]) (t := 64) ?hr ?_; (case hd => rfl); (case hg => rfl); (case hr => first | (go_simp; done) | (go_simp; rfl)); intro gb277 hg w6 hbox hb; have n0_ := Aside0.mk (below_step (by repeat (first | (with_reducible first | exact HB.out | apply below_alloc | apply pw_below_drewN | apply below_drew1) | exact HB.out)) hb); have n1_ := Aside0.mk (hbox); have n2_ := Aside0.mk ((by rw [hg]; exact (below_size (by repeat (first | (with_reducible first | exact HB.out | apply below_alloc | apply pw_below_drewN | apply below_drew1) | exact HB.out))) : w.heap.size ≤ gb277)); have n3_ := Aside0.mk ((by rw [hg]; exact (below_size (by repeat (first | (with_reducible first | exact HB.out | apply below_alloc | apply pw_below_drewN | apply below_drew1) | exact HB.out))) : w.heap.size ≤ gb277)); clear HB; have HB := n0_; have BK277 := n1_; have GW277 := n2_; have GE277 := n3_; clear n0_ n1_ n2_ n3_; clear hb hbox hg) | ((with_reducible refine gate_dst (N := 2) rfl ?_); refine box_event ?hg (N := 2) ?hd (cs := #[.int .i64 0, .int .i64 0, .slice none 0 0, .int .i64 0, .int .i64 0, .slice none 0 0, .slice none 0 0, .slice none 0 0]) (t := 46) ?hr ?_; (case hd => rfl); (case hg => rfl); (case hr => first | (go_simp; done) | (go_simp; rfl)); intro gb278 hg w7 hbox hb; have n0_ := Aside0.mk (blk_below (g := gb277) (o := .cells #[.int .i64 a0_0, .int .i64 a0_1, .slice A0_2 l0_2.length c0_2, .int .i64 a0_3, .int .i64 a0_4, .slice A0_5 l0_5.length c0_5, .slice A0_6 l0_6.length c0_6, .slice A0_7 l0_7.length c0_7] 64 (0, 0)) (by (with_reducible repeat (first | refine blk_drewN ?_ _ | refine blk_drew ?_ | refine blk_alloc ?_ _)); exact BK277.out) hb); have n1_ := Aside0.mk (below_step (by repeat (first | (with_reducible first | exact HB.out | apply below_alloc | apply pw_below_drewN | apply below_drew1 | refine below_set ?_ GE277.out) | exact HB.out)) hb); have n2_ := Aside0.mk (hbox); have n3_ := Aside0.mk ((by rw [hg]; exact (below_size (by repeat (first | (with_reducible first | exact HB.out | apply below_alloc | apply pw_below_drewN | apply below_drew1 | refine below_set ?_ GE277.out) | exact HB.out))) : w.heap.size ≤ gb278)); have n4_ := Aside0.mk ((by rw [hg]; exact (below_size (by repeat (first | (with_reducible first | exact HB.out | apply below_alloc | apply pw_below_drewN | apply below_drew1 | refine below_set ?_ GE277.out) | exact HB.out))) : w.heap.size ≤ gb278)); have n5_ := Aside0.mk ((by rw [hg]; exact Nat.ne_of_lt (blk_lt (g := gb277) (o := .cells #[.int .i64 a0_0, .int .i64 a0_1, .slice A0_2 l0_2.length c0_2, .int .i64 a0_3, .int .i64 a0_4, .slice A0_5 l0_5.length c0_5, .slice A0_6 l0_6.length c0_6, .slice A0_7 l0_7.length c0_7] 64 (0, 0)) (by (with_reducible repeat (first | refine blk_drewN ?_ _ | refine blk_drew ?_ | refine blk_alloc ?_ _)); exact BK277.out)) : gb277 ≠ gb278)); have n6_ := Aside0.mk ((by rw [hg]; exact Nat.ne_of_gt (blk_lt (g := gb277) (o := .cells #[.int .i64 a0_0, .int .i64 a0_1, .slice A0_2 l0_2.length c0_2, .int .i64 a0_3, .int .i64 a0_4, .slice A0_5 l0_5.length c0_5, .slice A0_6 l0_6.length c0_6, .slice A0_7 l0_7.length c0_7] 64 (0, 0)) (by (with_reducible repeat (first | refine blk_drewN ?_ _ | refine blk_drew ?_ | refine blk_alloc ?_ _)); exact BK277.out)) : gb278 ≠ gb277)); clear BK277; clear HB; have BK277 := n0_; have HB := n1_; have BK278 := n2_; have GW278 := n3_; have GE278 := n4_; have NB277_278 := n5_; have NB278_277 := n6_; clear n0_ n1_ n2_ n3_ n4_ n5_ n6_; clear hb hbox hg) | ((with_reducible refine gate_dst (N := 3) rfl ?_); refine box_event ?hg (N := 3) ?hd (cs := #[.int .i64 0, .int .i64 0, .slice none 0 0, .int .i64 0, .int .i64 0, .slice none 0 0, .slice none 0 0, .slice none 0 0]) (t := 46) ?hr ?_; (case hd => rfl); (case hg => rfl); (case hr => first | (go_simp; done) | (go_simp; rfl)); intro gb279 hg w8 hbox hb; have n0_ := Aside0.mk (blk_below (g := gb277) (o := .cells #[.int .i64 a0_0, .int .i64 a0_1, .slice A0_2 l0_2.length c0_2, .int .i64 a0_3, .int .i64 a0_4, .slice A0_5 l0_5.length c0_5, .slice A0_6 l0_6.length c0_6, .slice A0_7 l0_7.length c0_7] 64 (0, 0)) (by (with_reducible repeat (first | refine blk_drewN ?_ _ | refine blk_drew ?_ | refine blk_alloc ?_ _)); exact BK277.out) hb); have n1_ := Aside0.mk (blk_below (g := gb278) (o := .cells #[.int .i64 0, .int .i64 0, .slice none 0 0, .int .i64 0, .int .i64 0, .slice none 0 0, .slice none 0 0, .slice none 0 0] 46 (0, 0)) (by (with_reducible repeat (first | refine blk_drewN ?_ _ | refine blk_drew ?_ | refine blk_alloc ?_ _)); exact BK278.out) hb); have n2_ := Aside0.mk (below_step (by repeat (first | (with_reducible first | exact HB.out | apply below_alloc | apply pw_below_drewN | apply below_drew1 | refine below_set ?_ GE277.out | refine below_set ?_ GE278.out) | exact HB.out)) hb); have n3_ := Aside0.mk (hbox); have n4_ := Aside0.mk ((by rw [hg]; exact (below_size (by repeat (first | (with_reducible first | exact HB.out | apply below_alloc | apply pw_below_drewN | apply below_drew1 | refine below_set ?_ GE277.out | refine below_set ?_ GE278.out) | exact HB.out))) : w.heap.size ≤ gb279)); have n5_ := Aside0.mk ((by rw [hg]; exact (below_size (by repeat (first | (with_reducible first | exact HB.out | apply below_alloc | apply pw_below_drewN | apply below_drew1 | refine below_set ?_ GE277.out | refine below_set ?_ GE278.out) | exact HB.out))) : w.heap.size ≤ gb279)); have n6_ := Aside0.mk ((by rw [hg]; exact Nat.ne_of_lt (blk_lt (g := gb277) (o := .cells #[.int .i64 a0_0, .int .i64 a0_1, .slice A0_2 l0_2.length c0_2, .int .i64 a0_3, .int .i64 a0_4, .slice A0_5 l0_5.length c0_5, .slice A0_6 l0_6.length c0_6, .slice A0_7 l0_7.length c0_7] 64 (0, 0)) (by (with_reducible repeat (first | refine blk_drewN ?_ _ | refine blk_drew ?_ | refine blk_alloc ?_ _)); exact BK277.out)) : gb277 ≠ gb279)); have n7_ := Aside0.mk ((by rw [hg]; exact Nat.ne_of_gt (blk_lt (g := gb277) (o := .cells #[.int .i64 a0_0, .int .i64 a0_1, .slice A0_2 l0_2.length c0_2, .int .i64 a0_3, .int .i64 a0_4, .slice A0_5 l0_5.length c0_5, .slice A0_6 l0_6.length c0_6, .slice A0_7 l0_7.length c0_7] 64 (0, 0)) (by (with_reducible repeat (first | refine blk_drewN ?_ _ | refine blk_drew ?_ | refine blk_alloc ?_ _)); exact BK277.out)) : gb279 ≠ gb277)); have n8_ := Aside0.mk ((by rw [hg]; exact Nat.ne_of_lt (blk_lt (g := gb278) (o := .cells #[.int .i64 0, .int .i64 0, .slice none 0 0, .int .i64 0, .int .i64 0, .slice none 0 0, .slice none 0 0, .slice none 0 0] 46 (0, 0)) (by (with_reducible repeat (first | refine blk_drewN ?_ _ | refine blk_drew ?_ | refine blk_alloc ?_ _)); exact BK278.out)) : gb278 ≠ gb279)); have n9_ := Aside0.mk ((by rw [hg]; exact Nat.ne_of_gt (blk_lt (g := gb278) (o := .cells #[.int .i64 0, .int .i64 0, .slice none 0 0, .int .i64 0, .int .i64 0, .slice none 0 0, .slice none 0 0, .slice none 0 0] 46 (0, 0)) (by (with_reducible repeat (first | refine blk_drewN ?_ _ | refine blk_drew ?_ | refine blk_alloc ?_ _)); exact BK278.out)) : gb279 ≠ gb278)); clear BK277; clear BK278; clear HB; have BK277 := n0_; have BK278 := n1_; have HB := n2_; have BK279 := n3_; have GW279 := n4_; have GE279 := n5_; have NB277_279 := n6_; have NB279_277 := n7_; have NB278_279 := n8_; have NB279_278 := n9_; clear n0_ n1_ n2_ n3_ n4_ n5_ n6_ n7_ n8_ n9_; clear hb hbox hg; have hnb9 := NB277_278.out; have hnc9 := NB278_277.out; have hnb10 := NB277_279.out; have hnc10 := NB279_277.out; have hcz11_0 : w8.cell? ⟨gb277, 0, none⟩ = some (.int .i64 a0_0) := (blk_cell BK277.out 0).trans rfl; have hcz11_1 : w8.cell? ⟨gb277, 1, none⟩ = some (.int .i64 a0_1) := (blk_cell BK277.out 1).trans rfl; have hcz11_2 : w8.cell? ⟨gb277, 2, none⟩ = some (.slice A0_2 l0_2.length c0_2) := (blk_cell BK277.out 2).trans rfl; have hcz11_3 : w8.cell? ⟨gb277, 3, none⟩ = some (.int .i64 a0_3) := (blk_cell BK277.out 3).trans rfl; have hcz11_4 : w8.cell? ⟨gb277, 4, none⟩ = some (.int .i64 a0_4) := (blk_cell BK277.out 4).trans rfl; have hcz11_5 : w8.cell? ⟨gb277, 5, none⟩ = some (.slice A0_5 l0_5.length c0_5) := (blk_cell BK277.out 5).trans rfl; have hcz11_6 : w8.cell? ⟨gb277, 6, none⟩ = some (.slice A0_6 l0_6.length c0_6) := (blk_cell BK277.out 6).trans rfl; have hcz11_7 : w8.cell? ⟨gb277, 7, none⟩ = some (.slice A0_7 l0_7.length c0_7) := (blk_cell BK277.out 7).trans rfl; have hfz11_0 := blk_frozen BK277.out 0; have hfz11_1 := blk_frozen BK277.out 1; have hfz11_2 := blk_frozen BK277.out 2; have hfz11_3 := blk_frozen BK277.out 3; have hfz11_4 := blk_frozen BK277.out 4; have hfz11_5 := blk_frozen BK277.out 5; have hfz11_6 := blk_frozen BK277.out 6; have hfz11_7 := blk_frozen BK277.out 7; have hnb12 := NB279_278.out; have hnc12 := NB278_279.out; have hcz13_0 : w8.cell? ⟨gb279, 0, none⟩ = some (.int .i64 0) := (blk_cell BK279.out 0).trans rfl; have hcz13_1 : w8.cell? ⟨gb279, 1, none⟩ = some (.int .i64 0) := (blk_cell BK279.out 1).trans rfl; have hcz13_2 : w8.cell? ⟨gb279, 2, none⟩ = some (.slice none 0 0) := (blk_cell BK279.out 2).trans rfl; have hcz13_3 : w8.cell? ⟨gb279, 3, none⟩ = some (.int .i64 0) := (blk_cell BK279.out 3).trans rfl; have hcz13_4 : w8.cell? ⟨gb279, 4, none⟩ = some (.int .i64 0) := (blk_cell BK279.out 4).trans rfl; have hcz13_5 : w8.cell? ⟨gb279, 5, none⟩ = some (.slice none 0 0) := (blk_cell BK279.out 5).trans rfl; have hcz13_6 : w8.cell? ⟨gb279, 6, none⟩ = some (.slice none 0 0) := (blk_cell BK279.out 6).trans rfl; have hcz13_7 : w8.cell? ⟨gb279, 7, none⟩ = some (.slice none 0 0) := (blk_cell BK279.out 7).trans rfl; have hfz13_0 := blk_frozen BK279.out 0; have hfz13_1 := blk_frozen BK279.out 1; have hfz13_2 := blk_frozen BK279.out 2; have hfz13_3 := blk_frozen BK279.out 3; have hfz13_4 := blk_frozen BK279.out 4; have hfz13_5 := blk_frozen BK279.out 5; have hfz13_6 := blk_frozen BK279.out 6; have hfz13_7 := blk_frozen BK279.out 7) | ((with_reducible refine gate_callee (f := 58) rfl ?_); refine goesL_ (some 12) rfl rfl Try.func58 (by kernel_rfl) rfl #[.slice A0_2 l0_2.length c0_2] rfl (by (try simp only [List.map_toArray, List.map_cons, List.map_nil]); first | done | rfl | (simp only [List.length_drop, List.length_take]; rfl)) ?_; (with_reducible refine (laws_toIntS.calls k _ _ l0_2 t280 _ ?side1 ?side2 A2.out).mono ?_); (case side1 => exact Kd.C_below HR0_2.out (by repeat (first | (with_reducible first | exact HB.out | apply below_alloc | apply pw_below_drewN | apply below_drew1 | refine below_set ?_ GE277.out | refine below_set ?_ GE278.out | refine below_set ?_ GE279.out) | exact HB.out))); (case side2 => exact HC0_2.out); rintro e w14 ⟨v281, rfl, ho0, hb⟩; refine ⟨_, rfl, ?_⟩; have n0_ := Aside0.mk (Kd.R_lower ho0 (below_size (by repeat (first | (with_reducible first | exact HB.out | apply below_alloc | apply pw_below_drewN | apply below_drew1 | refine below_set ?_ GE277.out | refine below_set ?_ GE278.out | refine below_set ?_ GE279.out) | exact HB.out)))); have n1_ := Aside0.mk (blk_below (g := gb277) (o := .cells #[.int .i64 a0_0, .int .i64 a0_1, .slice A0_2 l0_2.length c0_2, .int .i64 a0_3, .int .i64 a0_4, .slice A0_5 l0_5.length c0_5, .slice A0_6 l0_6.length c0_6, .slice A0_7 l0_7.length c0_7] 64 (0, 0)) (by (with_reducible repeat (first | refine blk_drewN ?_ _ | refine blk_drew ?_ | refine blk_alloc ?_ _)); refine blk_far ?_ NB277_279.out _; (with_reducible repeat (first | refine blk_drewN ?_ _ | refine blk_drew ?_ | refine blk_alloc ?_ _)); refine blk_far ?_ NB277_279.out _; (with_reducible repeat (first | refine blk_drewN ?_ _ | refine blk_drew ?_ | refine blk_alloc ?_ _)); exact BK277.out) hb); have n2_ := Aside0.mk (blk_below (g := gb278) (o := .cells #[.int .i64 0, .int .i64 0, .slice none 0 0, .int .i64 0, .int .i64 0, .slice none 0 0, .slice none 0 0, .slice none 0 0] 46 (0, 0)) (by (with_reducible repeat (first | refine blk_drewN ?_ _ | refine blk_drew ?_ | refine blk_alloc ?_ _)); refine blk_far ?_ NB278_279.out _; (with_reducible repeat (first | refine blk_drewN ?_ _ | refine blk_drew ?_ | refine blk_alloc ?_ _)); refine blk_far ?_ NB278_279.out _; (with_reducible repeat (first | refine blk_drewN ?_ _ | refine blk_drew ?_ | refine blk_alloc ?_ _)); exact BK278.out) hb); have n3_ := Aside0.mk (blk_below (g := gb279) (o := .cells #[.int .i64 a0_0, .int .i64 a0_1, .slice none 0 0, .int .i64 0, .int .i64 0, .slice none 0 0, .slice none 0 0, .slice none 0 0] 46 (0, 0)) (by (with_reducible repeat (first | refine blk_drewN ?_ _ | refine blk_drew ?_ | refine blk_alloc ?_ _)); refine blk_put (cs := #[.int .i64 a0_0, .int .i64 0, .slice none 0 0, .int .i64 0, .int .i64 0, .slice none 0 0, .slice none 0 0, .slice none 0 0]) ?_ 1 _ rfl; (with_reducible repeat (first | refine blk_drewN ?_ _ | refine blk_drew ?_ | refine blk_alloc ?_ _)); refine blk_put (cs := #[.int .i64 0, .int .i64 0, .slice none 0 0, .int .i64 0, .int .i64 0, .slice none 0 0, .slice none 0 0, .slice none 0 0]) ?_ 0 _ rfl; (with_reducible repeat (first | refine blk_drewN ?_ _ | refine blk_drew ?_ | refine blk_alloc ?_ _)); exact BK279.out) hb); have n4_ := Aside0.mk (below_step (by repeat (first | (with_reducible first | exact HB.out | apply below_alloc | apply pw_below_drewN | apply below_drew1 | refine below_set ?_ GE277.out | refine below_set ?_ GE278.out | refine below_set ?_ GE279.out) | exact HB.out)) hb); clear BK277; clear BK278; clear BK279; clear HB; have HO282 := n0_; have BK277 := n1_; have BK278 := n2_; have BK279 := n3_; have HB := n4_; clear n0_ n1_ n2_ n3_ n4_; (try clear hb); (try clear hb2); (try clear hk); (try clear hi); (try clear ho0); obtain ⟨Ao15, co15, eo15⟩ := Kd.R_slice HO282.out; subst eo15; have hcz16_0 : w14.cell? ⟨gb279, 0, none⟩ = some (.int .i64 a0_0) := (blk_cell BK279.out 0).trans rfl; have hcz16_1 : w14.cell? ⟨gb279, 1, none⟩ = some (.int .i64 a0_1) := (blk_cell BK279.out 1).trans rfl; have hcz16_2 : w14.cell? ⟨gb279, 2, none⟩ = some (.slice none 0 0) := (blk_cell BK279.out 2).trans rfl; have hcz16_3 : w14.cell? ⟨gb279, 3, none⟩ = some (.int .i64 0) := (blk_cell BK279.out 3).trans rfl; have hcz16_4 : w14.cell? ⟨gb279, 4, none⟩ = some (.int .i64 0) := (blk_cell BK279.out 4).trans rfl; have hcz16_5 : w14.cell? ⟨gb279, 5, none⟩ = some (.slice none 0 0) := (blk_cell BK279.out 5).trans rfl; have hcz16_6 : w14.cell? ⟨gb279, 6, none⟩ = some (.slice none 0 0) := (blk_cell BK279.out 6).trans rfl; have hcz16_7 : w14.cell? ⟨gb279, 7, none⟩ = some (.slice none 0 0) := (blk_cell BK279.out 7).trans rfl; have hfz16_0 := blk_frozen BK279.out 0; have hfz16_1 := blk_frozen BK279.out 1; have hfz16_2 := blk_frozen BK279.out 2; have hfz16_3 := blk_frozen BK279.out 3; have hfz16_4 := blk_frozen BK279.out 4; have hfz16_5 := blk_frozen BK279.out 5; have hfz16_6 := blk_frozen BK279.out 6; have hfz16_7 := blk_frozen BK279.out 7; have hcz17_0 : w14.cell? ⟨gb277, 0, none⟩ = some (.int .i64 a0_0) := (blk_cell BK277.out 0).trans rfl; have hcz17_1 : w14.cell? ⟨gb277, 1, none⟩ = some (.int .i64 a0_1) := (blk_cell BK277.out 1).trans rfl; have hcz17_2 : w14.cell? ⟨gb277, 2, none⟩ = some (.slice A0_2 l0_2.length c0_2) := (blk_cell BK277.out 2).trans rfl; have hcz17_3 : w14.cell? ⟨gb277, 3, none⟩ = some (.int .i64 a0_3) := (blk_cell BK277.out 3).trans rfl; have hcz17_4 : w14.cell? ⟨gb277, 4, none⟩ = some (.int .i64 a0_4) := (blk_cell BK277.out 4).trans rfl; have hcz17_5 : w14.cell? ⟨gb277, 5, none⟩ = some (.slice A0_5 l0_5.length c0_5) := (blk_cell BK277.out 5).trans rfl; have hcz17_6 : w14.cell? ⟨gb277, 6, none⟩ = some (.slice A0_6 l0_6.length c0_6) := (blk_cell BK277.out 6).trans rfl; have hcz17_7 : w14.cell? ⟨gb277, 7, none⟩ = some (.slice A0_7 l0_7.length c0_7) := (blk_cell BK277.out 7).trans rfl; have hfz17_0 := blk_frozen BK277.out 0; have hfz17_1 := blk_frozen BK277.out 1; have hfz17_2 := blk_frozen BK277.out 2; have hfz17_3 := blk_frozen BK277.out 3; have hfz17_4 := blk_frozen BK277.out 4; have hfz17_5 := blk_frozen BK277.out 5; have hfz17_6 := blk_frozen BK277.out 6; have hfz17_7 := blk_frozen BK277.out 7) | ((with_reducible refine gate_callee (f := 59) rfl ?_); refine goesL_ (some 22) rfl rfl Try.func59 (by kernel_rfl) rfl #[.slice A0_5 l0_5.length c0_5] rfl (by (try simp only [List.map_toArray, List.map_cons, List.map_nil]); first | done | rfl | (simp only [List.length_drop, List.length_take]; rfl)) ?_; (with_reducible refine (laws_toInsS.calls k _ _ l0_5 t283 _ ?side1 ?side2 A3.out).mono ?_); (case side1 => exact Kd.C_below HR0_5.out (by repeat (first | (with_reducible first | exact HB.out | apply below_alloc | apply pw_below_drewN | apply below_drew1 | refine below_set ?_ GE277.out | refine below_set ?_ GE278.out | refine below_set ?_ GE279.out) | exact HB.out))); (case side2 => exact HC0_5.out); rintro e w18 ⟨v284, rfl, ho0, hb⟩; refine ⟨_, rfl, ?_⟩; have n0_ := Aside0.mk (Kd.R_below (by (with_reducible repeat (first | apply Kd.R_alloc | apply Kd.R_drewN | apply Kd.R_drew)); exact (Kd.R_mono (Kd.R_far (p := ⟨gb279, 4, none⟩) (Kd.R_far (p := ⟨gb279, 3, none⟩) (Kd.R_far (p := ⟨gb279, 2, none⟩) (Kd.R_types HO282.out BK279.out (by decide)) (fun _ hk => hk.2) (.slice Ao15 t280.length co15)) (fun _ hk => hk.2) (.int .i64 a0_3)) (fun _ hk => hk.2) (.int .i64 a0_4)) (fun _ h_ => h_.1))) hb); have n1_ := Aside0.mk (Kd.R_lower ho0 (below_size (by repeat (first | (with_reducible first | exact HB.out | apply below_alloc | apply pw_below_drewN | apply below_drew1 | refine below_set ?_ GE277.out | refine below_set ?_ GE278.out | refine below_set ?_ GE279.out) | exact HB.out)))); have n2_ := Aside0.mk (blk_below (g := gb277) (o := .cells #[.int .i64 a0_0, .int .i64 a0_1, .slice A0_2 l0_2.length c0_2, .int .i64 a0_3, .int .i64 a0_4, .slice A0_5 l0_5.length c0_5, .slice A0_6 l0_6.length c0_6, .slice A0_7 l0_7.length c0_7] 64 (0, 0)) (by (with_reducible repeat (first | refine blk_drewN ?_ _ | refine blk_drew ?_ | refine blk_alloc ?_ _)); refine blk_far ?_ NB277_279.out _; (with_reducible repeat (first | refine blk_drewN ?_ _ | refine blk_drew ?_ | refine blk_alloc ?_ _)); refine blk_far ?_ NB277_279.out _; (with_reducible repeat (first | refine blk_drewN ?_ _ | refine blk_drew ?_ | refine blk_alloc ?_ _)); refine blk_far ?_ NB277_279.out _; (with_reducible repeat (first | refine blk_drewN ?_ _ | refine blk_drew ?_ | refine blk_alloc ?_ _)); exact BK277.out) hb); have n3_ := Aside0.mk (blk_below (g := gb278) (o := .cells #[.int .i64 0, .int .i64 0, .slice none 0 0, .int .i64 0, .int .i64 0, .slice none 0 0, .slice none 0 0, .slice none 0 0] 46 (0, 0)) (by (with_reducible repeat (first | refine blk_drewN ?_ _ | refine blk_drew ?_ | refine blk_alloc ?_ _)); refine blk_far ?_ NB278_279.out _; (with_reducible repeat (first | refine blk_drewN ?_ _ | refine blk_drew ?_ | refine blk_alloc ?_ _)); refine blk_far ?_ NB278_279.out _; (with_reducible repeat (first | refine blk_drewN ?_ _ | refine blk_drew ?_ | refine blk_alloc ?_ _)); refine blk_far ?_ NB278_279.out _; (with_reducible repeat (first | refine blk_drewN ?_ _ | refine blk_drew ?_ | refine blk_alloc ?_ _)); exact BK278.out) hb); have n4_ := Aside0.mk (blk_below (g := gb279) (o := .cells #[.int .i64 a0_0, .int .i64 a0_1, .slice Ao15 t280.length co15, .int .i64 a0_3, .int .i64 a0_4, .slice none 0 0, .slice none 0 0, .slice none 0 0] 46 (0, 0)) (by (with_reducible repeat (first | refine blk_drewN ?_ _ | refine blk_drew ?_ | refine blk_alloc ?_ _)); refine blk_put (cs := #[.int .i64 a0_0, .int .i64 a0_1, .slice Ao15 t280.length co15, .int .i64 a0_3, .int .i64 0, .slice none 0 0, .slice none 0 0, .slice none 0 0]) ?_ 4 _ rfl; (with_reducible repeat (first | refine blk_drewN ?_ _ | refine blk_drew ?_ | refine blk_alloc ?_ _)); refine blk_put (cs := #[.int .i64 a0_0, .int .i64 a0_1, .slice Ao15 t280.length co15, .int .i64 0, .int .i64 0, .slice none 0 0, .slice none 0 0, .slice none 0 0]) ?_ 3 _ rfl; (with_reducible repeat (first | refine blk_drewN ?_ _ | refine blk_drew ?_ | refine blk_alloc ?_ _)); refine blk_put (cs := #[.int .i64 a0_0, .int .i64 a0_1, .slice none 0 0, .int .i64 0, .int .i64 0, .slice none 0 0, .slice none 0 0, .slice none 0 0]) ?_ 2 _ rfl; (with_reducible repeat (first | refine blk_drewN ?_ _ | refine blk_drew ?_ | refine blk_alloc ?_ _)); exact BK279.out) hb); have n5_ := Aside0.mk (below_step (by repeat (first | (with_reducible first | exact HB.out | apply below_alloc | apply pw_below_drewN | apply below_drew1 | refine below_set ?_ GE277.out | refine below_set ?_ GE278.out | refine below_set ?_ GE279.out) | exact HB.out)) hb); clear HO282; clear BK277; clear BK278; clear BK279; clear HB; have HO282 := n0_; have HO285 := n1_; have BK277 := n2_; have BK278 := n3_; have BK279 := n4_; have HB := n5_; clear n0_ n1_ n2_ n3_ n4_ n5_; (try clear hb); (try clear hb2); (try clear hk); (try clear hi); (try clear ho0); obtain ⟨Ao19, co19, eo19⟩ := Kd.R_slice HO285.out; subst eo19; have hcz20_0 : w18.cell? ⟨gb279, 0, none⟩ = some (.int .i64 a0_0) := (blk_cell BK279.out 0).trans rfl; have hcz20_1 : w18.cell? ⟨gb279, 1, none⟩ = some (.int .i64 a0_1) := (blk_cell BK279.out 1).trans rfl; have hcz20_2 : w18.cell? ⟨gb279, 2, none⟩ = some (.slice Ao15 t280.length co15) := (blk_cell BK279.out 2).trans rfl; have hcz20_3 : w18.cell? ⟨gb279, 3, none⟩ = some (.int .i64 a0_3) := (blk_cell BK279.out 3).trans rfl; have hcz20_4 : w18.cell? ⟨gb279, 4, none⟩ = some (.int .i64 a0_4) := (blk_cell BK279.out 4).trans rfl; have hcz20_5 : w18.cell? ⟨gb279, 5, none⟩ = some (.slice none 0 0) := (blk_cell BK279.out 5).trans rfl; have hcz20_6 : w18.cell? ⟨gb279, 6, none⟩ = some (.slice none 0 0) := (blk_cell BK279.out 6).trans rfl; have hcz20_7 : w18.cell? ⟨gb279, 7, none⟩ = some (.slice none 0 0) := (blk_cell BK279.out 7).trans rfl; have hfz20_0 := blk_frozen BK279.out 0; have hfz20_1 := blk_frozen BK279.out 1; have hfz20_2 := blk_frozen BK279.out 2; have hfz20_3 := blk_frozen BK279.out 3; have hfz20_4 := blk_frozen BK279.out 4; have hfz20_5 := blk_frozen BK279.out 5; have hfz20_6 := blk_frozen BK279.out 6; have hfz20_7 := blk_frozen BK279.out 7; have hcz21_0 : w18.cell? ⟨gb277, 0, none⟩ = some (.int .i64 a0_0) := (blk_cell BK277.out 0).trans rfl; have hcz21_1 : w18.cell? ⟨gb277, 1, none⟩ = some (.int .i64 a0_1) := (blk_cell BK277.out 1).trans rfl; have hcz21_2 : w18.cell? ⟨gb277, 2, none⟩ = some (.slice A0_2 l0_2.length c0_2) := (blk_cell BK277.out 2).trans rfl; have hcz21_3 : w18.cell? ⟨gb277, 3, none⟩ = some (.int .i64 a0_3) := (blk_cell BK277.out 3).trans rfl; have hcz21_4 : w18.cell? ⟨gb277, 4, none⟩ = some (.int .i64 a0_4) := (blk_cell BK277.out 4).trans rfl; have hcz21_5 : w18.cell? ⟨gb277, 5, none⟩ = some (.slice A0_5 l0_5.length c0_5) := (blk_cell BK277.out 5).trans rfl; have hcz21_6 : w18.cell? ⟨gb277, 6, none⟩ = some (.slice A0_6 l0_6.length c0_6) := (blk_cell BK277.out 6).trans rfl; have hcz21_7 : w18.cell? ⟨gb277, 7, none⟩ = some (.slice A0_7 l0_7.length c0_7) := (blk_cell BK277.out 7).trans rfl; have hfz21_0 := blk_frozen BK277.out 0; have hfz21_1 := blk_frozen BK277.out 1; have hfz21_2 := blk_frozen BK277.out 2; have hfz21_3 := blk_frozen BK277.out 3; have hfz21_4 := blk_frozen BK277.out 4; have hfz21_5 := blk_frozen BK277.out 5; have hfz21_6 := blk_frozen BK277.out 6; have hfz21_7 := blk_frozen BK277.out 7) | ((with_reducible refine gate_callee (f := 60) rfl ?_); refine goesL_ (some 26) rfl rfl Try.func60 (by kernel_rfl) rfl #[.slice A0_6 l0_6.length c0_6] rfl (by (try simp only [List.map_toArray, List.map_cons, List.map_nil]); first | done | rfl | (simp only [List.length_drop, List.length_take]; rfl)) ?_; (with_reducible refine (laws_toShapeS.calls k _ _ l0_6 t286 _ ?side1 ?side2 A4.out).mono ?_); (case side1 => exact Kd.C_below HR0_6.out (by repeat (first | (with_reducible first | exact HB.out | apply below_alloc | apply pw_below_drewN | apply below_drew1 | refine below_set ?_ GE277.out | refine below_set ?_ GE278.out | refine below_set ?_ GE279.out) | exact HB.out))); (case side2 => exact HC0_6.out); rintro e w22 ⟨v287, rfl, ho0, hb⟩; refine ⟨_, rfl, ?_⟩; have n0_ := Aside0.mk (Kd.R_below (by (with_reducible repeat (first | apply Kd.R_alloc | apply Kd.R_drewN | apply Kd.R_drew)); exact (Kd.R_mono (Kd.R_far (p := ⟨gb279, 5, none⟩) (Kd.R_types HO282.out BK279.out (by decide)) (fun _ hk => hk.2) (.slice Ao19 t283.length co19)) (fun _ h_ => h_.1))) hb); have n1_ := Aside0.mk (Kd.R_below (by (with_reducible repeat (first | apply Kd.R_alloc | apply Kd.R_drewN | apply Kd.R_drew)); exact (Kd.R_mono (Kd.R_far (p := ⟨gb279, 5, none⟩) (Kd.R_types HO285.out BK279.out (by decide)) (fun _ hk => hk.2) (.slice Ao19 t283.length co19)) (fun _ h_ => h_.1))) hb); have n2_ := Aside0.mk (Kd.S_lower (Kd.S_new' ho0 (Kd.R_lt (by (with_reducible repeat (first | apply Kd.R_alloc | apply Kd.R_drewN | apply Kd.R_drew)); exact (Kd.R_mono (Kd.R_far (p := ⟨gb279, 5, none⟩) (Kd.R_types HO282.out BK279.out (by decide)) (fun _ hk => hk.2) (.slice Ao19 t283.length co19)) (fun _ h_ => h_.1))))) (below_size (by repeat (first | (with_reducible first | exact HB.out | apply below_alloc | apply pw_below_drewN | apply below_drew1 | refine below_set ?_ GE277.out | refine below_set ?_ GE278.out | refine below_set ?_ GE279.out) | exact HB.out)))); have n3_ := Aside0.mk (blk_below (g := gb277) (o := .cells #[.int .i64 a0_0, .int .i64 a0_1, .slice A0_2 l0_2.length c0_2, .int .i64 a0_3, .int .i64 a0_4, .slice A0_5 l0_5.length c0_5, .slice A0_6 l0_6.length c0_6, .slice A0_7 l0_7.length c0_7] 64 (0, 0)) (by (with_reducible repeat (first | refine blk_drewN ?_ _ | refine blk_drew ?_ | refine blk_alloc ?_ _)); refine blk_far ?_ NB277_279.out _; (with_reducible repeat (first | refine blk_drewN ?_ _ | refine blk_drew ?_ | refine blk_alloc ?_ _)); exact BK277.out) hb); have n4_ := Aside0.mk (blk_below (g := gb278) (o := .cells #[.int .i64 0, .int .i64 0, .slice none 0 0, .int .i64 0, .int .i64 0, .slice none 0 0, .slice none 0 0, .slice none 0 0] 46 (0, 0)) (by (with_reducible repeat (first | refine blk_drewN ?_ _ | refine blk_drew ?_ | refine blk_alloc ?_ _)); refine blk_far ?_ NB278_279.out _; (with_reducible repeat (first | refine blk_drewN ?_ _ | refine blk_drew ?_ | refine blk_alloc ?_ _)); exact BK278.out) hb); have n5_ := Aside0.mk (blk_below (g := gb279) (o := .cells #[.int .i64 a0_0, .int .i64 a0_1, .slice Ao15 t280.length co15, .int .i64 a0_3, .int .i64 a0_4, .slice Ao19 t283.length co19, .slice none 0 0, .slice none 0 0] 46 (0, 0)) (by (with_reducible repeat (first | refine blk_drewN ?_ _ | refine blk_drew ?_ | refine blk_alloc ?_ _)); refine blk_put (cs := #[.int .i64 a0_0, .int .i64 a0_1, .slice Ao15 t280.length co15, .int .i64 a0_3, .int .i64 a0_4, .slice none 0 0, .slice none 0 0, .slice none 0 0]) ?_ 5 _ rfl; (with_reducible repeat (first | refine blk_drewN ?_ _ | refine blk_drew ?_ | refine blk_alloc ?_ _)); exact BK279.out) hb); have n6_ := Aside0.mk (below_step (by repeat (first | (with_reducible first | exact HB.out | apply below_alloc | apply pw_below_drewN | apply below_drew1 | refine below_set ?_ GE277.out | refine below_set ?_ GE278.out | refine below_set ?_ GE279.out) | exact HB.out)) hb); clear HO282; clear HO285; clear BK277; clear BK278; clear BK279; clear HB; have HO282 := n0_; have HO285 := n1_; have HO288 := n2_; have BK277 := n3_; have BK278 := n4_; have BK279 := n5_; have HB := n6_; clear n0_ n1_ n2_ n3_ n4_ n5_ n6_; (try clear hb); (try clear hb2); (try clear hk); (try clear hi); (try clear ho0); obtain ⟨Ao23, co23, eo23⟩ := Kd.S_slice HO288.out; subst eo23; have hcz24_0 : w22.cell? ⟨gb279, 0, none⟩ = some (.int .i64 a0_0) := (blk_cell BK279.out 0).trans rfl; have hcz24_1 : w22.cell? ⟨gb279, 1, none⟩ = some (.int .i64 a0_1) := (blk_cell BK279.out 1).trans rfl; have hcz24_2 : w22.cell? ⟨gb279, 2, none⟩ = some (.slice Ao15 t280.length co15) := (blk_cell BK279.out 2).trans rfl; have hcz24_3 : w22.cell? ⟨gb279, 3, none⟩ = some (.int .i64 a0_3) := (blk_cell BK279.out 3).trans rfl; have hcz24_4 : w22.cell? ⟨gb279, 4, none⟩ = some (.int .i64 a0_4) := (blk_cell BK279.out 4).trans rfl; have hcz24_5 : w22.cell? ⟨gb279, 5, none⟩ = some (.slice Ao19 t283.length co19) := (blk_cell BK279.out 5).trans rfl; have hcz24_6 : w22.cell? ⟨gb279, 6, none⟩ = some (.slice none 0 0) := (blk_cell BK279.out 6).trans rfl; have hcz24_7 : w22.cell? ⟨gb279, 7, none⟩ = some (.slice none 0 0) := (blk_cell BK279.out 7).trans rfl; have hfz24_0 := blk_frozen BK279.out 0; have hfz24_1 := blk_frozen BK279.out 1; have hfz24_2 := blk_frozen BK279.out 2; have hfz24_3 := blk_frozen BK279.out 3; have hfz24_4 := blk_frozen BK279.out 4; have hfz24_5 := blk_frozen BK279.out 5; have hfz24_6 := blk_frozen BK279.out 6; have hfz24_7 := blk_frozen BK279.out 7; have hcz25_0 : w22.cell? ⟨gb277, 0, none⟩ = some (.int .i64 a0_0) := (blk_cell BK277.out 0).trans rfl; have hcz25_1 : w22.cell? ⟨gb277, 1, none⟩ = some (.int .i64 a0_1) := (blk_cell BK277.out 1).trans rfl; have hcz25_2 : w22.cell? ⟨gb277, 2, none⟩ = some (.slice A0_2 l0_2.length c0_2) := (blk_cell BK277.out 2).trans rfl; have hcz25_3 : w22.cell? ⟨gb277, 3, none⟩ = some (.int .i64 a0_3) := (blk_cell BK277.out 3).trans rfl; have hcz25_4 : w22.cell? ⟨gb277, 4, none⟩ = some (.int .i64 a0_4) := (blk_cell BK277.out 4).trans rfl; have hcz25_5 : w22.cell? ⟨gb277, 5, none⟩ = some (.slice A0_5 l0_5.length c0_5) := (blk_cell BK277.out 5).trans rfl; have hcz25_6 : w22.cell? ⟨gb277, 6, none⟩ = some (.slice A0_6 l0_6.length c0_6) := (blk_cell BK277.out 6).trans rfl; have hcz25_7 : w22.cell? ⟨gb277, 7, none⟩ = some (.slice A0_7 l0_7.length c0_7) := (blk_cell BK277.out 7).trans rfl; have hfz25_0 := blk_frozen BK277.out 0; have hfz25_1 := blk_frozen BK277.out 1; have hfz25_2 := blk_frozen BK277.out 2; have hfz25_3 := blk_frozen BK277.out 3; have hfz25_4 := blk_frozen BK277.out 4; have hfz25_5 := blk_frozen BK277.out 5; have hfz25_6 := blk_frozen BK277.out 6; have hfz25_7 := blk_frozen BK277.out 7) | ((with_reducible refine gate_callee (f := 61) rfl ?_); refine goesL_ (some 30) rfl rfl Try.func61 (by kernel_rfl) rfl #[.slice A0_7 l0_7.length c0_7] rfl (by (try simp only [List.map_toArray, List.map_cons, List.map_nil]); first | done | rfl | (simp only [List.length_drop, List.length_take]; rfl)) ?_; (with_reducible refine (laws_toCatchS.calls k _ _ l0_7 t289 _ ?side1 ?side2 A5.out).mono ?_); (case side1 => exact Kd.C_below HR0_7.out (by repeat (first | (with_reducible first | exact HB.out | apply below_alloc | apply pw_below_drewN | apply below_drew1 | refine below_set ?_ GE277.out | refine below_set ?_ GE278.out | refine below_set ?_ GE279.out) | exact HB.out))); (case side2 => exact HC0_7.out); rintro e w26 ⟨v290, rfl, ho0, hb⟩; refine ⟨_, rfl, ?_⟩; have n0_ := Aside0.mk (Kd.R_below (by (with_reducible repeat (first | apply Kd.R_alloc | apply Kd.R_drewN | apply Kd.R_drew)); exact (Kd.R_mono (Kd.R_far (p := ⟨gb279, 6, none⟩) (Kd.R_types HO282.out BK279.out (by decide)) (fun _ hk => hk.2) (.slice Ao23 t286.length co23)) (fun _ h_ => h_.1))) hb); have n1_ := Aside0.mk (Kd.R_below (by (with_reducible repeat (first | apply Kd.R_alloc | apply Kd.R_drewN | apply Kd.R_drew)); exact (Kd.R_mono (Kd.R_far (p := ⟨gb279, 6, none⟩) (Kd.R_types HO285.out BK279.out (by decide)) (fun _ hk => hk.2) (.slice Ao23 t286.length co23)) (fun _ h_ => h_.1))) hb); have n2_ := Aside0.mk (Kd.S_below (by (with_reducible repeat (first | apply Kd.S_alloc | apply Kd.S_drewN | apply Kd.S_drew)); exact (Kd.S_mono (Kd.S_far (p := ⟨gb279, 6, none⟩) (Kd.S_types HO288.out BK279.out (by decide)) (fun _ hk => hk.2) (.slice Ao23 t286.length co23)) (fun _ h_ => h_.1))) hb); have n3_ := Aside0.mk (Kd.R_lower ho0 (below_size (by repeat (first | (with_reducible first | exact HB.out | apply below_alloc | apply pw_below_drewN | apply below_drew1 | refine below_set ?_ GE277.out | refine below_set ?_ GE278.out | refine below_set ?_ GE279.out) | exact HB.out)))); have n4_ := Aside0.mk (blk_below (g := gb277) (o := .cells #[.int .i64 a0_0, .int .i64 a0_1, .slice A0_2 l0_2.length c0_2, .int .i64 a0_3, .int .i64 a0_4, .slice A0_5 l0_5.length c0_5, .slice A0_6 l0_6.length c0_6, .slice A0_7 l0_7.length c0_7] 64 (0, 0)) (by (with_reducible repeat (first | refine blk_drewN ?_ _ | refine blk_drew ?_ | refine blk_alloc ?_ _)); refine blk_far ?_ NB277_279.out _; (with_reducible repeat (first | refine blk_drewN ?_ _ | refine blk_drew ?_ | refine blk_alloc ?_ _)); exact BK277.out) hb); have n5_ := Aside0.mk (blk_below (g := gb278) (o := .cells #[.int .i64 0, .int .i64 0, .slice none 0 0, .int .i64 0, .int .i64 0, .slice none 0 0, .slice none 0 0, .slice none 0 0] 46 (0, 0)) (by (with_reducible repeat (first | refine blk_drewN ?_ _ | refine blk_drew ?_ | refine blk_alloc ?_ _)); refine blk_far ?_ NB278_279.out _; (with_reducible repeat (first | refine blk_drewN ?_ _ | refine blk_drew ?_ | refine blk_alloc ?_ _)); exact BK278.out) hb); have n6_ := Aside0.mk (blk_below (g := gb279) (o := .cells #[.int .i64 a0_0, .int .i64 a0_1, .slice Ao15 t280.length co15, .int .i64 a0_3, .int .i64 a0_4, .slice Ao19 t283.length co19, .slice Ao23 t286.length co23, .slice none 0 0] 46 (0, 0)) (by (with_reducible repeat (first | refine blk_drewN ?_ _ | refine blk_drew ?_ | refine blk_alloc ?_ _)); refine blk_put (cs := #[.int .i64 a0_0, .int .i64 a0_1, .slice Ao15 t280.length co15, .int .i64 a0_3, .int .i64 a0_4, .slice Ao19 t283.length co19, .slice none 0 0, .slice none 0 0]) ?_ 6 _ rfl; (with_reducible repeat (first | refine blk_drewN ?_ _ | refine blk_drew ?_ | refine blk_alloc ?_ _)); exact BK279.out) hb); have n7_ := Aside0.mk (below_step (by repeat (first | (with_reducible first | exact HB.out | apply below_alloc | apply pw_below_drewN | apply below_drew1 | refine below_set ?_ GE277.out | refine below_set ?_ GE278.out | refine below_set ?_ GE279.out) | exact HB.out)) hb); clear HO282; clear HO285; clear HO288; clear BK277; clear BK278; clear BK279; clear HB; have HO282 := n0_; have HO285 := n1_; have HO288 := n2_; have HO291 := n3_; have BK277 := n4_; have BK278 := n5_; have BK279 := n6_; have HB := n7_; clear n0_ n1_ n2_ n3_ n4_ n5_ n6_ n7_; (try clear hb); (try clear hb2); (try clear hk); (try clear hi); (try clear ho0); obtain ⟨Ao27, co27, eo27⟩ := Kd.R_slice HO291.out; subst eo27; have hcz28_0 : w26.cell? ⟨gb279, 0, none⟩ = some (.int .i64 a0_0) := (blk_cell BK279.out 0).trans rfl; have hcz28_1 : w26.cell? ⟨gb279, 1, none⟩ = some (.int .i64 a0_1) := (blk_cell BK279.out 1).trans rfl; have hcz28_2 : w26.cell? ⟨gb279, 2, none⟩ = some (.slice Ao15 t280.length co15) := (blk_cell BK279.out 2).trans rfl; have hcz28_3 : w26.cell? ⟨gb279, 3, none⟩ = some (.int .i64 a0_3) := (blk_cell BK279.out 3).trans rfl; have hcz28_4 : w26.cell? ⟨gb279, 4, none⟩ = some (.int .i64 a0_4) := (blk_cell BK279.out 4).trans rfl; have hcz28_5 : w26.cell? ⟨gb279, 5, none⟩ = some (.slice Ao19 t283.length co19) := (blk_cell BK279.out 5).trans rfl; have hcz28_6 : w26.cell? ⟨gb279, 6, none⟩ = some (.slice Ao23 t286.length co23) := (blk_cell BK279.out 6).trans rfl; have hcz28_7 : w26.cell? ⟨gb279, 7, none⟩ = some (.slice none 0 0) := (blk_cell BK279.out 7).trans rfl; have hfz28_0 := blk_frozen BK279.out 0; have hfz28_1 := blk_frozen BK279.out 1; have hfz28_2 := blk_frozen BK279.out 2; have hfz28_3 := blk_frozen BK279.out 3; have hfz28_4 := blk_frozen BK279.out 4; have hfz28_5 := blk_frozen BK279.out 5; have hfz28_6 := blk_frozen BK279.out 6; have hfz28_7 := blk_frozen BK279.out 7; have hcz29_0 : w26.cell? ⟨gb278, 0, none⟩ = some (.int .i64 0) := (blk_cell BK278.out 0).trans rfl; have hcz29_1 : w26.cell? ⟨gb278, 1, none⟩ = some (.int .i64 0) := (blk_cell BK278.out 1).trans rfl; have hcz29_2 : w26.cell? ⟨gb278, 2, none⟩ = some (.slice none 0 0) := (blk_cell BK278.out 2).trans rfl; have hcz29_3 : w26.cell? ⟨gb278, 3, none⟩ = some (.int .i64 0) := (blk_cell BK278.out 3).trans rfl; have hcz29_4 : w26.cell? ⟨gb278, 4, none⟩ = some (.int .i64 0) := (blk_cell BK278.out 4).trans rfl; have hcz29_5 : w26.cell? ⟨gb278, 5, none⟩ = some (.slice none 0 0) := (blk_cell BK278.out 5).trans rfl; have hcz29_6 : w26.cell? ⟨gb278, 6, none⟩ = some (.slice none 0 0) := (blk_cell BK278.out 6).trans rfl; have hcz29_7 : w26.cell? ⟨gb278, 7, none⟩ = some (.slice none 0 0) := (blk_cell BK278.out 7).trans rfl; have hfz29_0 := blk_frozen BK278.out 0; have hfz29_1 := blk_frozen BK278.out 1; have hfz29_2 := blk_frozen BK278.out 2; have hfz29_3 := blk_frozen BK278.out 3; have hfz29_4 := blk_frozen BK278.out 4; have hfz29_5 := blk_frozen BK278.out 5; have hfz29_6 := blk_frozen BK278.out 6; have hfz29_7 := blk_frozen BK278.out 7))
  refine bodyPost_ret (results_cell_row rfl _ _ gb278 46 #[.int .i64 a0_0, .int .i64 a0_1, .slice Ao15 t280.length co15, .int .i64 a0_3, .int .i64 a0_4, .slice Ao19 t283.length co19, .slice Ao23 t286.length co23, .slice Ao27 t289.length co27] (0, 0) _ rfl (by (with_reducible repeat (first | refine blk_drewN ?_ _ | refine blk_drew ?_ | refine blk_alloc ?_ _)); refine blk_put (cs := #[.int .i64 a0_0, .int .i64 a0_1, .slice Ao15 t280.length co15, .int .i64 a0_3, .int .i64 a0_4, .slice Ao19 t283.length co19, .slice Ao23 t286.length co23, .slice none 0 0]) ?_ 7 _ rfl; (with_reducible repeat (first | refine blk_drewN ?_ _ | refine blk_drew ?_ | refine blk_alloc ?_ _)); refine blk_put (cs := #[.int .i64 a0_0, .int .i64 a0_1, .slice Ao15 t280.length co15, .int .i64 a0_3, .int .i64 a0_4, .slice Ao19 t283.length co19, .slice none 0 0, .slice none 0 0]) ?_ 6 _ rfl; (with_reducible repeat (first | refine blk_drewN ?_ _ | refine blk_drew ?_ | refine blk_alloc ?_ _)); refine blk_put (cs := #[.int .i64 a0_0, .int .i64 a0_1, .slice Ao15 t280.length co15, .int .i64 a0_3, .int .i64 a0_4, .slice none 0 0, .slice none 0 0, .slice none 0 0]) ?_ 5 _ rfl; (with_reducible repeat (first | refine blk_drewN ?_ _ | refine blk_drew ?_ | refine blk_alloc ?_ _)); refine blk_put (cs := #[.int .i64 a0_0, .int .i64 a0_1, .slice Ao15 t280.length co15, .int .i64 a0_3, .int .i64 0, .slice none 0 0, .slice none 0 0, .slice none 0 0]) ?_ 4 _ rfl; (with_reducible repeat (first | refine blk_drewN ?_ _ | refine blk_drew ?_ | refine blk_alloc ?_ _)); refine blk_put (cs := #[.int .i64 a0_0, .int .i64 a0_1, .slice Ao15 t280.length co15, .int .i64 0, .int .i64 0, .slice none 0 0, .slice none 0 0, .slice none 0 0]) ?_ 3 _ rfl; (with_reducible repeat (first | refine blk_drewN ?_ _ | refine blk_drew ?_ | refine blk_alloc ?_ _)); refine blk_put (cs := #[.int .i64 a0_0, .int .i64 a0_1, .slice none 0 0, .int .i64 0, .int .i64 0, .slice none 0 0, .slice none 0 0, .slice none 0 0]) ?_ 2 _ rfl; (with_reducible repeat (first | refine blk_drewN ?_ _ | refine blk_drew ?_ | refine blk_alloc ?_ _)); refine blk_put (cs := #[.int .i64 a0_0, .int .i64 0, .slice none 0 0, .int .i64 0, .int .i64 0, .slice none 0 0, .slice none 0 0, .slice none 0 0]) ?_ 1 _ rfl; (with_reducible repeat (first | refine blk_drewN ?_ _ | refine blk_drew ?_ | refine blk_alloc ?_ _)); refine blk_put (cs := #[.int .i64 0, .int .i64 0, .slice none 0 0, .int .i64 0, .int .i64 0, .slice none 0 0, .slice none 0 0, .slice none 0 0]) ?_ 0 _ rfl; (with_reducible repeat (first | refine blk_drewN ?_ _ | refine blk_drew ?_ | refine blk_alloc ?_ _)); refine blk_far ?_ NB278_279.out _; (with_reducible repeat (first | refine blk_drewN ?_ _ | refine blk_drew ?_ | refine blk_alloc ?_ _)); exact BK278.out) Try.underlying46 rfl (by kernel_rfl)) rfl ?_
  exact ⟨_, _, _, _, by first | rfl | (simp [errW_none, errW_some] <;> rfl) | (simp [*, errW_none, errW_some] <;> rfl), by (with_reducible repeat (first | apply Kd.R_alloc | apply Kd.R_drewN | apply Kd.R_drew)); exact Kd.R_mono (Kd.R_far (p := ⟨gb278, 7, none⟩) (Kd.R_far (p := ⟨gb278, 6, none⟩) (Kd.R_far (p := ⟨gb278, 5, none⟩) (Kd.R_far (p := ⟨gb278, 4, none⟩) (Kd.R_far (p := ⟨gb278, 3, none⟩) (Kd.R_far (p := ⟨gb278, 2, none⟩) (Kd.R_far (p := ⟨gb278, 1, none⟩) (Kd.R_far (p := ⟨gb278, 0, none⟩) (Kd.R_far (p := ⟨gb279, 7, none⟩) (Kd.R_types (Kd.R_types HO282.out BK279.out (by decide)) BK278.out (by decide)) (fun _ hk => hk.1.2) (.slice Ao27 t289.length co27)) (fun _ hk => hk.2) (.int .i64 a0_0)) (fun _ hk => hk.2) (.int .i64 a0_1)) (fun _ hk => hk.2) (.slice Ao15 t280.length co15)) (fun _ hk => hk.2) (.int .i64 a0_3)) (fun _ hk => hk.2) (.int .i64 a0_4)) (fun _ hk => hk.2) (.slice Ao19 t283.length co19)) (fun _ hk => hk.2) (.slice Ao23 t286.length co23)) (fun _ hk => hk.2) (.slice Ao27 t289.length co27)) (fun _ hk => trivial), by (with_reducible repeat (first | apply Kd.R_alloc | apply Kd.R_drewN | apply Kd.R_drew)); exact Kd.R_mono (Kd.R_far (p := ⟨gb278, 7, none⟩) (Kd.R_far (p := ⟨gb278, 6, none⟩) (Kd.R_far (p := ⟨gb278, 5, none⟩) (Kd.R_far (p := ⟨gb278, 4, none⟩) (Kd.R_far (p := ⟨gb278, 3, none⟩) (Kd.R_far (p := ⟨gb278, 2, none⟩) (Kd.R_far (p := ⟨gb278, 1, none⟩) (Kd.R_far (p := ⟨gb278, 0, none⟩) (Kd.R_far (p := ⟨gb279, 7, none⟩) (Kd.R_types (Kd.R_types HO285.out BK279.out (by decide)) BK278.out (by decide)) (fun _ hk => hk.1.2) (.slice Ao27 t289.length co27)) (fun _ hk => hk.2) (.int .i64 a0_0)) (fun _ hk => hk.2) (.int .i64 a0_1)) (fun _ hk => hk.2) (.slice Ao15 t280.length co15)) (fun _ hk => hk.2) (.int .i64 a0_3)) (fun _ hk => hk.2) (.int .i64 a0_4)) (fun _ hk => hk.2) (.slice Ao19 t283.length co19)) (fun _ hk => hk.2) (.slice Ao23 t286.length co23)) (fun _ hk => hk.2) (.slice Ao27 t289.length co27)) (fun _ hk => trivial), by (with_reducible repeat (first | apply Kd.S_alloc | apply Kd.S_drewN | apply Kd.S_drew)); exact Kd.S_mono (Kd.S_far (p := ⟨gb278, 7, none⟩) (Kd.S_far (p := ⟨gb278, 6, none⟩) (Kd.S_far (p := ⟨gb278, 5, none⟩) (Kd.S_far (p := ⟨gb278, 4, none⟩) (Kd.S_far (p := ⟨gb278, 3, none⟩) (Kd.S_far (p := ⟨gb278, 2, none⟩) (Kd.S_far (p := ⟨gb278, 1, none⟩) (Kd.S_far (p := ⟨gb278, 0, none⟩) (Kd.S_far (p := ⟨gb279, 7, none⟩) (Kd.S_types (Kd.S_types HO288.out BK279.out (by decide)) BK278.out (by decide)) (fun _ hk => hk.1.2) (.slice Ao27 t289.length co27)) (fun _ hk => hk.2) (.int .i64 a0_0)) (fun _ hk => hk.2) (.int .i64 a0_1)) (fun _ hk => hk.2) (.slice Ao15 t280.length co15)) (fun _ hk => hk.2) (.int .i64 a0_3)) (fun _ hk => hk.2) (.int .i64 a0_4)) (fun _ hk => hk.2) (.slice Ao19 t283.length co19)) (fun _ hk => hk.2) (.slice Ao23 t286.length co23)) (fun _ hk => hk.2) (.slice Ao27 t289.length co27)) (fun _ hk => hk.1.1.2), by (with_reducible repeat (first | apply Kd.R_alloc | apply Kd.R_drewN | apply Kd.R_drew)); exact Kd.R_mono (Kd.R_far (p := ⟨gb278, 7, none⟩) (Kd.R_far (p := ⟨gb278, 6, none⟩) (Kd.R_far (p := ⟨gb278, 5, none⟩) (Kd.R_far (p := ⟨gb278, 4, none⟩) (Kd.R_far (p := ⟨gb278, 3, none⟩) (Kd.R_far (p := ⟨gb278, 2, none⟩) (Kd.R_far (p := ⟨gb278, 1, none⟩) (Kd.R_far (p := ⟨gb278, 0, none⟩) (Kd.R_far (p := ⟨gb279, 7, none⟩) (Kd.R_types (Kd.R_types HO291.out BK279.out (by decide)) BK278.out (by decide)) (fun _ hk => hk.1.2) (.slice Ao27 t289.length co27)) (fun _ hk => hk.2) (.int .i64 a0_0)) (fun _ hk => hk.2) (.int .i64 a0_1)) (fun _ hk => hk.2) (.slice Ao15 t280.length co15)) (fun _ hk => hk.2) (.int .i64 a0_3)) (fun _ hk => hk.2) (.int .i64 a0_4)) (fun _ hk => hk.2) (.slice Ao19 t283.length co19)) (fun _ hk => hk.2) (.slice Ao23 t286.length co23)) (fun _ hk => hk.2) (.slice Ao27 t289.length co27)) (fun _ hk => trivial), by repeat (first | (with_reducible first | exact HB.out | apply below_alloc | apply pw_below_drewN | apply below_drew1 | refine below_set ?_ GE277.out | refine below_set ?_ GE278.out | refine below_set ?_ GE279.out) | exact HB.out)⟩
end Go.Proofs.Ytedodaifpekahaa.P

end
section

namespace Go.Proofs.Ytedodaifpekahaa.P
open Go.RowKit Go.Proofs.YtedodaifpekahaaW.PrintWords Go.Proofs.YtedodaifpekahaaW.PrintLast Go.Proofs.YtedodaifpekahaaW.PrintMore
attribute [local go_sem] max2_int min2_int max_two min_two max_three min_three max_four min_four
set_option linter.unusedVariables false
set_option linter.unusedSimpArgs false
set_option maxHeartbeats 8000000 in
set_option maxRecDepth 100000 in
theorem laws_toMethodS.calls (k : Nat) (A0 : Option Addr) (c0 : Nat) (l0 : List (S64)) (r : List (S46)) (w : World) (hr0 : Kd.C k64 w A0 l0.length l0) (hc0 : l0.length ≤ c0) (h : laws_toMethodS.f k l0 = some r) :
    Calls Try.prog 19 #[.slice A0 l0.length c0] w fun e w' => ∃ v0_ : Value, e = .returned (v0_) ∧ Kd.R k46 46 w' w.heap.size (fun _ => True) v0_ r ∧ Below w.heap.size w w' := by
  have hu64 := Try.underlying64
  have hu46 := Try.underlying46
  have HR0 := Aside0.mk hr0
  have HC0 := Aside0.mk hc0
  clear hr0 hc0
  have HB := Aside0.mk (Below.refl w.heap.size w)
  have H : (if 0 ≤ (l0.length : Int) then (if ((l0.length : Int) : Int).toNat ≤ 2199023255552 then (laws_toMethodS.l0 k l0 (List.replicate ((l0.length : Int) : Int).toNat z46) 0) else (none)) else (none)) = some r := h
  clear h
  by_cases c2 : 0 ≤ (l0.length : Int)
  · rw [if_pos c2] at H
    have c2b0 := eq_true c2
    have c2b1 : decide (0 ≤ (l0.length : Int)) = true := decide_eq_true c2
    clear c2
    by_cases c3 : ((l0.length : Int) : Int).toNat ≤ 2199023255552
    · rw [if_pos c3] at H
      have c3b0 := eq_true c3
      have c3b1 : decide (((l0.length : Int) : Int).toNat ≤ 2199023255552) = true := decide_eq_true c3
      clear c3
      obtain ⟨y292, hy292⟩ : ∃ y_ : List (S46), y_ = (List.replicate ((l0.length : Int) : Int).toNat z46) := ⟨_, rfl⟩
      replace H : (laws_toMethodS.l0 k l0 y292 0) = some r := by first | (rw [hy292]; with_reducible exact H) | (have H2_ := (Option.bind_some _ _).symm.trans H; rw [hy292]; with_reducible exact H2_) | (have H2_ := (Option.bind_some _ _).symm.trans H; with_reducible exact H2_) | with_reducible exact H | (rw [hy292]; exact H) | exact H
      have Ny292 := Aside0.mk hy292
      clear hy292
      have H' := Aside0.mk H
      clear H
      go_enter Try.func19, Try.ntmps19
      go_wp2_with (first | ((with_reducible refine gate_dst (N := 7) rfl ?_); refine Kd.R_make k46 _ 46 rfl (N := 7) rfl 29 _ _ rfl (l0.length : Int) rfl rfl Try.underlying29 (.agg #[(.int .i64 0), (.int .i64 0), (.slice none 0 0), (.int .i64 0), (.int .i64 0), (.slice none 0 0), (.slice none 0 0), (.slice none 0 0)]) 128 info46 rfl (by decide) (by omega) z46 (ok := fun _ => True) (okp := fun _ => True) (k46_mkM _ _ _ z46 (Kd.R_nil _ _ _ _ _) (Kd.R_nil _ _ _ _ _) (Kd.R_nil _ _ _ _ _) (Kd.R_nil _ _ _ _ _)) (fun _ hk => hk) trivial (of_decide_eq_true (by first | (with_reducible assumption) | assumption)) (Nat.le_trans (Nat.mul_le_mul_right _ (of_decide_eq_true (by first | (with_reducible assumption) | assumption) : (l0.length : Int).toNat ≤ 2199023255552)) (by omega)) (Below.refl _ _) (Nat.le_refl _) ?_; intro v293 w4 ho5 hb hg_ hnew_; clear hg_ hnew_; (first | rw [← Ny292.out] at ho5 | (simp only [Int.reduceToNat] at ho5; rw [← Ny292.out] at ho5)); have n0_ := Aside0.mk (Kd.R_lower ho5 (below_size (by repeat (first | (with_reducible first | exact HB.out | apply below_alloc | apply pw_below_drewN | apply below_drew1) | exact HB.out)))); have n1_ := Aside0.mk (below_step (by repeat (first | (with_reducible first | exact HB.out | apply below_alloc | apply pw_below_drewN | apply below_drew1) | exact HB.out)) hb); clear HB; have HO294 := n0_; have HB := n1_; clear n0_ n1_; clear hb ho5))
      go_loopg [4] k (fun kq v4 w' => ∃ (x3_1 : List (S46)) (x4_1 : Int), v4 = .int .i64 x4_1 ∧ Aside0 (laws_toMethodS.l0 kq l0 x3_1 x4_1 = some r) ∧ Aside0 (kq ≤ k) ∧ Aside0 (Kd.R k46 46 w' w.heap.size (fun _ => True) v293 x3_1) ∧ Aside0 (Below w.heap.size w w'))
      case atStart => exact ⟨(y292), (0), (by first | rfl | (simp; done) | (simp [*]; done)), H', ⟨Nat.le_refl _⟩, ⟨by (with_reducible repeat (first | apply Kd.R_alloc | apply Kd.R_drewN | apply Kd.R_drew)); exact HO294.out⟩, ⟨by repeat (first | (with_reducible first | exact HB.out | apply below_alloc | apply pw_below_drewN | apply below_drew1) | exact HB.out)⟩⟩
      case round =>
        clear H'
        try clear c1
        try clear c2
        try clear c2b0
        try clear c2b1
        try clear p2
        try clear c3
        try clear c3b0
        try clear c3b1
        obtain ⟨x3_1, x4_1, rfl, HA, HK1, HO_3, HB⟩ := hrel
        cases gk with
        | zero => exact absurd HA.out (by simp [laws_toMethodS.l0])
        | succ k1 =>
          have H := HA.out
          clear HA
          simp only [laws_toMethodS.l0] at H
          by_cases c6 : x4_1 < (l0.length : Int)
          · rw [if_pos c6] at H
            have c6b0 : decide (x4_1 < (l0.length : Int)) = true := decide_eq_true c6
            clear c6
            by_cases c7 : 0 ≤ x4_1
            · rw [if_pos c7] at H
              have c7b0 : decide (0 ≤ x4_1) = true := decide_eq_true c7
              clear c7
              replace H := Option.bind_eq_some_iff.mp H
              obtain ⟨⟨t296, t297, t298, t301, t302, t303, t306, t309⟩, A80, H⟩ := H
              replace H : (if x4_1 < (x3_1.length : Int) then (laws_toMethodS.l0 k1 l0 (x3_1.set (x4_1 : Int).toNat (⟨t296, t297, t298, t301, t302, t303, t306, t309⟩ : S46)) (wrap64 (x4_1 + 1))) else (none)) = some r := H
              have A8 := Aside0.mk A80
              clear A80
              by_cases c9 : x4_1 < (x3_1.length : Int)
              · rw [if_pos c9] at H
                have c9b0 : decide (x4_1 < (x3_1.length : Int)) = true := decide_eq_true c9
                clear c9
                obtain ⟨y312, hy312⟩ : ∃ y_ : List (S46), y_ = (x3_1.set (x4_1 : Int).toNat (⟨t296, t297, t298, t301, t302, t303, t306, t309⟩ : S46)) := ⟨_, rfl⟩
                replace H : (laws_toMethodS.l0 k1 l0 y312 (wrap64 (x4_1 + 1))) = some r := by first | (rw [hy312]; with_reducible exact H) | (have H2_ := (Option.bind_some _ _).symm.trans H; rw [hy312]; with_reducible exact H2_) | (have H2_ := (Option.bind_some _ _).symm.trans H; with_reducible exact H2_) | with_reducible exact H | (rw [hy312]; exact H) | exact H
                have Ny312 := Aside0.mk hy312
                clear hy312
                have H' := Aside0.mk H
                clear H
                have p295 : 0 ≤ (x4_1 : Int) := of_decide_eq_true (by first | (with_reducible assumption) | assumption)
                have q295 : x4_1 < (l0.length : Int) := of_decide_eq_true (by first | (with_reducible assumption) | assumption)
                obtain ⟨ad295, A295_2, c295_2, A295_5, c295_5, A295_6, c295_6, A295_7, c295_7, e295, hx295_0, hx295_1, hx295_2, hx295_3, hx295_4, hx295_5, hx295_6, hx295_7, hl295_2, hi295_2, hl295_5, hi295_5, hl295_6, hi295_6, hl295_7, hi295_7⟩ := at_T64 HR0.out x4_1 p295 q295
                cases e295
                replace hx295_0 := (HB.out.cell (World.block_lt_of_cell? w _ hx295_0)).trans hx295_0
                replace hx295_1 := (HB.out.cell (World.block_lt_of_cell? w _ hx295_1)).trans hx295_1
                replace hx295_2 := (HB.out.cell (World.block_lt_of_cell? w _ hx295_2)).trans hx295_2
                replace hx295_3 := (HB.out.cell (World.block_lt_of_cell? w _ hx295_3)).trans hx295_3
                replace hx295_4 := (HB.out.cell (World.block_lt_of_cell? w _ hx295_4)).trans hx295_4
                replace hx295_5 := (HB.out.cell (World.block_lt_of_cell? w _ hx295_5)).trans hx295_5
                replace hx295_6 := (HB.out.cell (World.block_lt_of_cell? w _ hx295_6)).trans hx295_6
                replace hx295_7 := (HB.out.cell (World.block_lt_of_cell? w _ hx295_7)).trans hx295_7
                have HR295_2 := Aside0.mk hi295_2
                have HC295_2 := Aside0.mk hl295_2
                clear hi295_2 hl295_2
                have HR295_5 := Aside0.mk hi295_5
                have HC295_5 := Aside0.mk hl295_5
                clear hi295_5 hl295_5
                have HR295_6 := Aside0.mk hi295_6
                have HC295_6 := Aside0.mk hl295_6
                clear hi295_6 hl295_6
                have HR295_7 := Aside0.mk hi295_7
                have HC295_7 := Aside0.mk hl295_7
                clear hi295_7 hl295_7
                replace p295 := eq_true p295
                replace q295 := eq_true q295
                go_wp2_with (first | ((with_reducible refine gate_callee (f := 41) rfl ?_); refine goesL_ (some 20) rfl rfl Try.func41 (by kernel_rfl) rfl #[.agg #[.int .i64 ((rd_T64 l0 x4_1).f0), .int .i64 ((rd_T64 l0 x4_1).f1), .slice A295_2 ((rd_T64 l0 x4_1).f2).length c295_2, .int .i64 ((rd_T64 l0 x4_1).f3), .int .i64 ((rd_T64 l0 x4_1).f4), .slice A295_5 ((rd_T64 l0 x4_1).f5).length c295_5, .slice A295_6 ((rd_T64 l0 x4_1).f6).length c295_6, .slice A295_7 ((rd_T64 l0 x4_1).f7).length c295_7]] rfl (by (try simp only [List.map_toArray, List.map_cons, List.map_nil]); first | done | rfl | (simp only [List.length_drop, List.length_take]; rfl)) ?_; (with_reducible refine (laws_toMethod.calls k1 ((rd_T64 l0 x4_1).f0) ((rd_T64 l0 x4_1).f1) _ _ ((rd_T64 l0 x4_1).f2) ((rd_T64 l0 x4_1).f3) ((rd_T64 l0 x4_1).f4) _ _ ((rd_T64 l0 x4_1).f5) _ _ ((rd_T64 l0 x4_1).f6) _ _ ((rd_T64 l0 x4_1).f7) t296 t297 t298 t301 t302 t303 t306 t309 _ ?side1 ?side2 ?side3 ?side4 ?side5 ?side6 ?side7 ?side8 A8.out).mono ?_); (case side1 => repeat (first | exact (Kd.C_below HR295_2.out HB.out) | (with_reducible refine Kd.C_alloc ?_ _) | (with_reducible refine Kd.C_drewN ?_ _) | (with_reducible refine Kd.C_drew ?_))); (case side2 => exact HC295_2.out); (case side3 => repeat (first | exact (Kd.C_below HR295_5.out HB.out) | (with_reducible refine Kd.C_alloc ?_ _) | (with_reducible refine Kd.C_drewN ?_ _) | (with_reducible refine Kd.C_drew ?_))); (case side4 => exact HC295_5.out); (case side5 => repeat (first | exact (Kd.C_below HR295_6.out HB.out) | (with_reducible refine Kd.C_alloc ?_ _) | (with_reducible refine Kd.C_drewN ?_ _) | (with_reducible refine Kd.C_drew ?_))); (case side6 => exact HC295_6.out); (case side7 => repeat (first | exact (Kd.C_below HR295_7.out HB.out) | (with_reducible refine Kd.C_alloc ?_ _) | (with_reducible refine Kd.C_drewN ?_ _) | (with_reducible refine Kd.C_drew ?_))); (case side8 => exact HC295_7.out); rintro e w11 ⟨v299, v304, v307, v310, rfl, ho0, ho1, ho2, ho3, hb⟩; refine ⟨_, rfl, ?_⟩; have n0_ := Aside0.mk (Kd.R_mono (Kd.R_told (Kd.R_told (Kd.R_told (Kd.R_told (Kd.R_old (by (with_reducible repeat (first | apply Kd.R_alloc | apply Kd.R_drewN | apply Kd.R_drew)); exact HO_3.out) hb) (Kd.R_base ho0)) (Kd.R_base ho1)) (Kd.S_base ho2)) (Kd.R_base ho3)) (fun _ h_ => h_.1)); have n1_ := Aside0.mk (Kd.R_lower ho0 (below_size (by repeat (first | (with_reducible first | exact HB.out | apply below_alloc | apply pw_below_drewN | apply below_drew1) | exact HB.out)))); have n2_ := Aside0.mk (Kd.R_lower ho1 (below_size (by repeat (first | (with_reducible first | exact HB.out | apply below_alloc | apply pw_below_drewN | apply below_drew1) | exact HB.out)))); have n3_ := Aside0.mk (Kd.S_lower ho2 (below_size (by repeat (first | (with_reducible first | exact HB.out | apply below_alloc | apply pw_below_drewN | apply below_drew1) | exact HB.out)))); have n4_ := Aside0.mk (Kd.R_lower ho3 (below_size (by repeat (first | (with_reducible first | exact HB.out | apply below_alloc | apply pw_below_drewN | apply below_drew1) | exact HB.out)))); have n5_ := Aside0.mk (below_step (by repeat (first | (with_reducible first | exact HB.out | apply below_alloc | apply pw_below_drewN | apply below_drew1) | exact HB.out)) hb); clear HO_3; clear HB; have HO_3 := n0_; have HO300 := n1_; have HO305 := n2_; have HO308 := n3_; have HO311 := n4_; have HB := n5_; clear n0_ n1_ n2_ n3_ n4_ n5_; (try clear hb); (try clear hb2); (try clear hk); (try clear hi); (try clear ho0); (try clear ho1); (try clear ho2); (try clear ho3); have p10 : 0 ≤ (x4_1 : Int) := of_decide_eq_true (by first | (with_reducible assumption) | assumption); have q10 : (x4_1 : Int) < ((x3_1.length : Int) : Int) := of_decide_eq_true (by first | (with_reducible assumption) | assumption); obtain ⟨go10, co10, eo10, gb10, gl10, cl10, HG10⟩ := Kd.R_form HO_3.out (by omega); (first | cases eo10 | (injection eo10 with ea_ en_ ec_; (first | subst ea_ | (injection ea_ with ea_; subst ea_)); subst ec_; clear en_)); have GB10 := Aside0.mk gb10; have GG10 := Aside0.mk HG10; clear gb10 gl10 HG10; obtain ⟨ce10, hcl10, hM10, hcc10, hfr10⟩ := Kd.R_elem HO_3.out z46 (x4_1 : Int) p10 q10; obtain ⟨ve10_2, ve10_5, ve10_6, ve10_7, rfl, ge10_2, ge10_5, ge10_6, ge10_7⟩ := k46_openM hM10; have hx10_0 : w11.cell? ⟨go10, (x4_1 : Int).toNat * 8, none⟩ = some (.int .i64 ((rd_T46 x3_1 x4_1).f0)) := hcc10 0 _ rfl; have hx10_1 : w11.cell? ⟨go10, (x4_1 : Int).toNat * 8 + 1, none⟩ = some (.int .i64 ((rd_T46 x3_1 x4_1).f1)) := hcc10 1 _ rfl; have hx10_2 : w11.cell? ⟨go10, (x4_1 : Int).toNat * 8 + 2, none⟩ = some (ve10_2) := hcc10 2 _ rfl; have hx10_3 : w11.cell? ⟨go10, (x4_1 : Int).toNat * 8 + 3, none⟩ = some (.int .i64 ((rd_T46 x3_1 x4_1).f3)) := hcc10 3 _ rfl; have hx10_4 : w11.cell? ⟨go10, (x4_1 : Int).toNat * 8 + 4, none⟩ = some (.int .i64 ((rd_T46 x3_1 x4_1).f4)) := hcc10 4 _ rfl; have hx10_5 : w11.cell? ⟨go10, (x4_1 : Int).toNat * 8 + 5, none⟩ = some (ve10_5) := hcc10 5 _ rfl; have hx10_6 : w11.cell? ⟨go10, (x4_1 : Int).toNat * 8 + 6, none⟩ = some (ve10_6) := hcc10 6 _ rfl; have hx10_7 : w11.cell? ⟨go10, (x4_1 : Int).toNat * 8 + 7, none⟩ = some (ve10_7) := hcc10 7 _ rfl; have hf10_0 : w11.frozen? ⟨go10, (x4_1 : Int).toNat * 8, none⟩ = false := hfr10 0; have hf10_1 : w11.frozen? ⟨go10, (x4_1 : Int).toNat * 8 + 1, none⟩ = false := hfr10 1; have hf10_2 : w11.frozen? ⟨go10, (x4_1 : Int).toNat * 8 + 2, none⟩ = false := hfr10 2; have hf10_3 : w11.frozen? ⟨go10, (x4_1 : Int).toNat * 8 + 3, none⟩ = false := hfr10 3; have hf10_4 : w11.frozen? ⟨go10, (x4_1 : Int).toNat * 8 + 4, none⟩ = false := hfr10 4; have hf10_5 : w11.frozen? ⟨go10, (x4_1 : Int).toNat * 8 + 5, none⟩ = false := hfr10 5; have hf10_6 : w11.frozen? ⟨go10, (x4_1 : Int).toNat * 8 + 6, none⟩ = false := hfr10 6; have hf10_7 : w11.frozen? ⟨go10, (x4_1 : Int).toNat * 8 + 7, none⟩ = false := hfr10 7; clear hcl10 hcc10 hfr10 hM10; replace p10 := eq_true p10; replace q10 := eq_true q10; have n_ := Aside0.mk (Kd.R_mono (ok' := (fun k_ => some k_ ≠ (v299 : Value).ownBlock ∧ some k_ ≠ (v304 : Value).ownBlock ∧ some k_ ≠ (v307 : Value).ownBlock ∧ some k_ ≠ (v310 : Value).ownBlock)) HO_3.out (fun k_ hk => ⟨hk.1.1.1.2, ⟨hk.1.1.2, ⟨hk.1.2, hk.2⟩⟩⟩)); clear HO_3; have HO_3 := n_; clear n_; have HX12 := Aside0.mk (show Kd.R k46 46 w11 w.heap.size (fun _ => True) (.slice (some ⟨go10, 0, none⟩) x3_1.length co10) x3_1 from (by (with_reducible repeat (first | apply Kd.R_alloc | apply Kd.R_drewN | apply Kd.R_drew)); exact Kd.R_mono HO_3.out (fun _ hk => trivial))); obtain ⟨ce12, hcl12, hM12, hcc12, hfr12⟩ := Kd.R_elem HX12.out z46 (x4_1 : Int) (of_decide_eq_true (by first | (with_reducible assumption) | assumption)) (by have h_ : (x4_1 : Int) < ((x3_1.length : Int) : Int) := of_decide_eq_true (by first | (with_reducible assumption) | assumption); first | exact h_ | (have e_ := (Kd.R_reads' HO_3.out).1; omega) | simpa using h_); obtain ⟨ve12_2, ve12_5, ve12_6, ve12_7, rfl, ge12_2, ge12_5, ge12_6, ge12_7⟩ := k46_openM hM12; have HP12 := Kd.R_seg HX12.out (x4_1 : Int) (of_decide_eq_true (by first | (with_reducible assumption) | assumption)) (by have h_ : (x4_1 : Int) < ((x3_1.length : Int) : Int) := of_decide_eq_true (by first | (with_reducible assumption) | assumption); first | exact h_ | (have e_ := (Kd.R_reads' HO_3.out).1; omega) | simpa using h_) (seg := [.int .i64 t296, .int .i64 t297, v299, .int .i64 t301, .int .i64 t302, v304, v307, v310]) (j := 0) hcl12 hcc12 (show 8 ≤ 8 from by decide) (x' := (⟨t296, t297, t298, t301, t302, t303, t306, t309⟩ : S46)) (k46_mkM _ _ _ (⟨t296, t297, t298, t301, t302, t303, t306, t309⟩ : S46) (Kd.R_mono (Kd.R_apart' (HO300.out) (Kd.R_typed HO_3.out) (by decide)) (fun k_ hk => ⟨trivial, fun e_ => (hk.2) (by rw [e_]; rfl)⟩)) (Kd.R_mono (Kd.R_apart' (HO305.out) (Kd.R_typed HO_3.out) (by decide)) (fun k_ hk => ⟨trivial, fun e_ => (hk.2) (by rw [e_]; rfl)⟩)) (Kd.R_mono (Kd.R_apart' ((Kd.S_R HO308.out)) (Kd.R_typed HO_3.out) (by decide)) (fun k_ hk => ⟨trivial, fun e_ => (hk.2) (by rw [e_]; rfl)⟩)) (Kd.R_mono (Kd.R_apart' (HO311.out) (Kd.R_typed HO_3.out) (by decide)) (fun k_ hk => ⟨trivial, fun e_ => (hk.2) (by rw [e_]; rfl)⟩))) (fun _ hk => hk); have hx12_0 := hcc12 0 _ rfl; (try simp only [show (k46).sz = 8 from rfl, Nat.mul_one, Nat.add_zero] at hx12_0); have hf12_0 := hfr12 0; (try simp only [show (k46).sz = 8 from rfl, Nat.mul_one, Nat.add_zero] at hf12_0); have hx12_1 := hcc12 1 _ rfl; (try simp only [show (k46).sz = 8 from rfl, Nat.mul_one, Nat.add_zero] at hx12_1); have hf12_1 := hfr12 1; (try simp only [show (k46).sz = 8 from rfl, Nat.mul_one, Nat.add_zero] at hf12_1); have hx12_2 := hcc12 2 _ rfl; (try simp only [show (k46).sz = 8 from rfl, Nat.mul_one, Nat.add_zero] at hx12_2); have hf12_2 := hfr12 2; (try simp only [show (k46).sz = 8 from rfl, Nat.mul_one, Nat.add_zero] at hf12_2); have hx12_3 := hcc12 3 _ rfl; (try simp only [show (k46).sz = 8 from rfl, Nat.mul_one, Nat.add_zero] at hx12_3); have hf12_3 := hfr12 3; (try simp only [show (k46).sz = 8 from rfl, Nat.mul_one, Nat.add_zero] at hf12_3); have hx12_4 := hcc12 4 _ rfl; (try simp only [show (k46).sz = 8 from rfl, Nat.mul_one, Nat.add_zero] at hx12_4); have hf12_4 := hfr12 4; (try simp only [show (k46).sz = 8 from rfl, Nat.mul_one, Nat.add_zero] at hf12_4); have hx12_5 := hcc12 5 _ rfl; (try simp only [show (k46).sz = 8 from rfl, Nat.mul_one, Nat.add_zero] at hx12_5); have hf12_5 := hfr12 5; (try simp only [show (k46).sz = 8 from rfl, Nat.mul_one, Nat.add_zero] at hf12_5); have hx12_6 := hcc12 6 _ rfl; (try simp only [show (k46).sz = 8 from rfl, Nat.mul_one, Nat.add_zero] at hx12_6); have hf12_6 := hfr12 6; (try simp only [show (k46).sz = 8 from rfl, Nat.mul_one, Nat.add_zero] at hf12_6); have hx12_7 := hcc12 7 _ rfl; (try simp only [show (k46).sz = 8 from rfl, Nat.mul_one, Nat.add_zero] at hx12_7); have hf12_7 := hfr12 7; (try simp only [show (k46).sz = 8 from rfl, Nat.mul_one, Nat.add_zero] at hf12_7); clear hcl12 hcc12 hfr12 hM12) | ((with_reducible refine gate_store (t := 46) (p := 21) rfl ?_); refine store_event (t := 46) (p := 21) (v := ?vo_w13) (w1 := ((((((((w11.setCell ⟨go10, (x4_1 : Int).toNat * 8, none⟩ (.int .i64 t296)).setCell ⟨go10, (x4_1 : Int).toNat * 8 + 1, none⟩ (.int .i64 t297)).setCell ⟨go10, (x4_1 : Int).toNat * 8 + 2, none⟩ (v299)).setCell ⟨go10, (x4_1 : Int).toNat * 8 + 3, none⟩ (.int .i64 t301)).setCell ⟨go10, (x4_1 : Int).toNat * 8 + 4, none⟩ (.int .i64 t302)).setCell ⟨go10, (x4_1 : Int).toNat * 8 + 5, none⟩ (v304)).setCell ⟨go10, (x4_1 : Int).toNat * 8 + 6, none⟩ (v307)).setCell ⟨go10, (x4_1 : Int).toNat * 8 + 7, none⟩ (v310))) ?hg ?ho ?hn ?hr ?_; (case ho => rfl); (case hg => rfl); (case hn => rfl); (case hr => first | (go_simp; done) | (go_simp; rfl) | (obtain ⟨_, _, rfl⟩ := Kd.R_slice HO300.out; obtain ⟨_, _, rfl⟩ := Kd.R_slice HO305.out; obtain ⟨_, _, rfl⟩ := Kd.S_slice HO308.out; obtain ⟨_, _, rfl⟩ := Kd.R_slice HO311.out; first | (go_simp; done) | (go_simp; rfl))); intro w13 hw; have hg : w11.grownBy w13 (some go10) := (by rw [hw]; exact HP12.2); have hp_ : Kd.R k46 46 w13 w.heap.size (fun _ => True) (.slice (some ⟨go10, 0, none⟩) x3_1.length co10) y312 := (by rw [hw, Ny312.out]; exact HP12.1); clear HP12; have n0_ := Aside0.mk (hp_); have n1_ := Aside0.mk ((by rw [hw]; exact below_set (below_set (below_set (below_set (below_set (below_set (below_set (below_set (HB.out) GB10.out) GB10.out) GB10.out) GB10.out) GB10.out) GB10.out) GB10.out) GB10.out : Below w.heap.size w w13)); clear HO_3; clear HB; clear HO300; clear HO305; clear HO308; clear HO311; have HO_3 := n0_; have HB := n1_; clear n0_ n1_; clear hg hw hp_))
                go_roundg k1
                case measure => have := HK1.out; omega
                case rel => exact ⟨(y312), (wrap64 (x4_1 + 1)), (by first | rfl | (simp; done) | (simp [*]; done)), H', ⟨by have := HK1.out; omega⟩, ⟨by (with_reducible repeat (first | apply Kd.R_alloc | apply Kd.R_drewN | apply Kd.R_drew)); exact HO_3.out⟩, ⟨by repeat (first | (with_reducible first | exact HB.out | apply below_alloc | apply pw_below_drewN | apply below_drew1) | exact HB.out)⟩⟩
              · rw [if_neg c9] at H
                exact absurd H (by simp)
            · rw [if_neg c7] at H
              exact absurd H (by simp)
          · rw [if_neg c6] at H
            have c6b0 : decide (x4_1 < (l0.length : Int)) = false := decide_eq_false c6
            clear c6
            obtain rfl := Option.some.inj H
            simp only [Option.some.injEq, Prod.mk.injEq] at H
            obtain ⟨rfl⟩ := H
            go_wp2
            go_ret
            exact ⟨_, by first | rfl | (simp [errW_none, errW_some] <;> rfl) | (simp [*, errW_none, errW_some] <;> rfl), by (with_reducible repeat (first | apply Kd.R_alloc | apply Kd.R_drewN | apply Kd.R_drew)); exact HO_3.out, by repeat (first | (with_reducible first | exact HB.out | apply below_alloc | apply pw_below_drewN | apply below_drew1) | exact HB.out)⟩
    · rw [if_neg c3] at H
      exact absurd H (by simp)
  · rw [if_neg c2] at H
    exact absurd H (by simp)
end Go.Proofs.Ytedodaifpekahaa.P

end
