/- A part of the claim FnExactUnitOk: texts of this session and texts that its program printed out of the translation, joined. -/
import Derived.Test.YtedodaifpekahaaCFnExactUnitOk21
import Derived.Test.YtedodaifpekahaaCFnExactUnitOk28
import Derived.Test.YtedodaifpekahaaCFnExactUnitOk30
import Derived.Test.YtedodaifpekahaaCFnExactUnitOk31
import Derived.Test.YtedodaifpekahaaCFnExactUnitOk0
import Derived.Test.YtedodaifpekahaaCFnExactUnitOk1
import Derived.Test.YtedodaifpekahaaCFnExactUnitOk2
import Derived.Test.YtedodaifpekahaaCFnExactUnitOk3
import Derived.Test.YtedodaifpekahaaCFnExactUnitOk4
import Derived.Test.YtedodaifpekahaaCFnExactUnitOk5
import Derived.Test.YtedodaifpekahaaCFnExactUnitOk6
import Derived.Test.YtedodaifpekahaaCFnExactUnitOk7
import Derived.Test.YtedodaifpekahaaCFnExactUnitOk8
import Derived.Test.YtedodaifpekahaaCFnExactUnitOk9
import Derived.Test.YtedodaifpekahaaCFnExactUnitOk10
import Derived.Test.YtedodaifpekahaaCFnExactUnitOk11
import Derived.Test.YtedodaifpekahaaCFnExactUnitOk12
import Derived.Test.YtedodaifpekahaaCFnExactUnitOk13
import Derived.Test.YtedodaifpekahaaCFnExactUnitOk14
import Derived.Test.YtedodaifpekahaaCFnExactUnitOk15
import Derived.Test.YtedodaifpekahaaCFnExactUnitOk16
import Derived.Test.YtedodaifpekahaaCFnExactUnitOk17
import Derived.Test.YtedodaifpekahaaCFnExactUnitOk18
import Derived.Test.YtedodaifpekahaaCFnExactUnitOk19
import Derived.Test.YtedodaifpekahaaCFnExactUnitOk20
import Derived.Test.YtedodaifpekahaaCFnExactUnitOk22
import Derived.Test.YtedodaifpekahaaCFnExactUnitOk23
import Derived.Test.YtedodaifpekahaaCFnExactUnitOk24
import Derived.Test.YtedodaifpekahaaCFnExactUnitOk25
import Derived.Test.YtedodaifpekahaaCFnExactUnitOk26
import Derived.Test.YtedodaifpekahaaCFnExactUnitOk27
import Derived.Test.YtedodaifpekahaaCFnExactUnitOk29
section

namespace Go.Proofs.Ytedodaifpekahaa.P
open Go.RowKit Go.Proofs.YtedodaifpekahaaW.PrintWords Go.Proofs.YtedodaifpekahaaW.PrintLast Go.Proofs.YtedodaifpekahaaW.PrintMore
attribute [local go_sem] max2_int min2_int max_two min_two max_three min_three max_four min_four
set_option linter.unusedVariables false
set_option linter.unusedSimpArgs false
set_option maxHeartbeats 8000000 in
set_option maxRecDepth 100000 in
theorem impl_UnitOk.calls (k : Nat) (A0_0 : Option Addr) (c0_0 : Nat) (l0_0 : List (S76)) (A0_1 : Option Addr) (c0_1 : Nat) (l0_1 : List (S46)) (r : Bool) (w : World) (hr0_0 : Kd.C k76 w A0_0 l0_0.length l0_0) (hc0_0 : l0_0.length ≤ c0_0) (hr0_1 : Kd.C k46 w A0_1 l0_1.length l0_1) (hc0_1 : l0_1.length ≤ c0_1) (h : impl_UnitOk.f k l0_0 l0_1 = some r) :
    Calls Try.prog 8 #[.agg #[.slice A0_0 l0_0.length c0_0, .slice A0_1 l0_1.length c0_1]] w fun e w' => e = .returned (.bool r) ∧ Below w.heap.size w w' := by
  have hu31 := Try.underlying31
  have hu46 := Try.underlying46
  have HR0_0 := Aside0.mk hr0_0
  have HC0_0 := Aside0.mk hc0_0
  clear hr0_0 hc0_0
  have HR0_1 := Aside0.mk hr0_1
  have HC0_1 := Aside0.mk hc0_1
  clear hr0_1 hc0_1
  have HB := Aside0.mk (Below.refl w.heap.size w)
  have H : ((impl_ClassesOk.f k l0_0).bind fun t402 => (if t402 = true then (if (l0_1.length : Int) < 1 then (impl_UnitOk.j0 k true l0_0 l0_1) else (impl_UnitOk.j0 k (decide ((l0_1.length : Int) > 4)) l0_0 l0_1)) else (impl_UnitOk.j0 k true l0_0 l0_1))) = some r := h
  clear h
  have HC2 := Aside0.mk H
  clear H
  go_enter Try.func8, Try.ntmps8
  go_upto_region 1 with (first | ((with_reducible refine gate_dst (N := 1) rfl ?_); (try (refine gate_guard (by rfl) ?_; dsimp only)); refine box_event ?hg (N := 1) ?hd (cs := #[.slice A0_0 l0_0.length c0_0, .slice A0_1 l0_1.length c0_1]) (t := 31) ?hr ?_; (case hd => rfl); (case hg => rfl); (case hr => first | (go_simp; done) | (go_simp; rfl)); intro gb401 hg w3 hbox hb; have n0_ := Aside0.mk (below_step (by repeat (first | (with_reducible first | exact HB.out | apply below_alloc | apply pw_below_drewN | apply below_drew1) | exact HB.out)) hb); have n1_ := Aside0.mk (hbox); have n2_ := Aside0.mk ((by rw [hg]; exact (below_size (by repeat (first | (with_reducible first | exact HB.out | apply below_alloc | apply pw_below_drewN | apply below_drew1) | exact HB.out))) : w.heap.size ≤ gb401)); have n3_ := Aside0.mk ((by rw [hg]; exact (below_size (by repeat (first | (with_reducible first | exact HB.out | apply below_alloc | apply pw_below_drewN | apply below_drew1) | exact HB.out))) : w.heap.size ≤ gb401)); clear HB; have HB := n0_; have BK401 := n1_; have GW401 := n2_; have GE401 := n3_; clear n0_ n1_ n2_ n3_; clear hb hbox hg))
  (try simp only [Act.put, List.setIfInBounds_toArray, List.set_cons_zero, List.set_cons_succ])
  go_cut [22] (fun v22 wc => ∃ (kq : Nat) (x22_1 : Bool), v22 = .bool x22_1 ∧ Aside0 (impl_UnitOk.j0 kq x22_1 l0_0 l0_1 = some r) ∧ Aside0 (kq ≤ k) ∧ Aside0 (wc.heap[gb401]? = some (.cells #[(.slice A0_0 l0_0.length c0_0), (.slice A0_1 l0_1.length c0_1)] 31 (0, 0))) ∧ Aside0 (Below w.heap.size w wc))
  case first =>
    have H := HC2.out
    clear HC2
    replace H := Option.bind_eq_some_iff.mp H
    obtain ⟨t402, A40, H⟩ := H
    replace H : (if t402 = true then (if (l0_1.length : Int) < 1 then (impl_UnitOk.j0 k true l0_0 l0_1) else (impl_UnitOk.j0 k (decide ((l0_1.length : Int) > 4)) l0_0 l0_1)) else (impl_UnitOk.j0 k true l0_0 l0_1)) = some r := H
    have A4 := Aside0.mk A40
    clear A40
    by_cases c5 : t402 = true
    · subst c5
      have H1 : (if (l0_1.length : Int) < 1 then (impl_UnitOk.j0 k true l0_0 l0_1) else (impl_UnitOk.j0 k (decide ((l0_1.length : Int) > 4)) l0_0 l0_1)) = some r := by rw [if_pos rfl] at H; exact H
      clear H
      have H := H1
      clear H1
      by_cases c6 : (l0_1.length : Int) < 1
      · rw [if_pos c6] at H
        have c6b0 : decide ((l0_1.length : Int) < 1) = true := decide_eq_true c6
        have c6b1 : decide (l0_1.length < 1) = true := decide_eq_true (by omega)
        clear c6
        (first | rw [c6b0] | (simp only [i64_w, i32_w]; rw [c6b0]) | skip)
        have H' := Aside0.mk H
        clear H
        have hcz7_0 : w3.cell? ⟨gb401, 0, none⟩ = some (.slice A0_0 l0_0.length c0_0) := (blk_cell BK401.out 0).trans rfl
        have hcz7_1 : w3.cell? ⟨gb401, 1, none⟩ = some (.slice A0_1 l0_1.length c0_1) := (blk_cell BK401.out 1).trans rfl
        have hfz7_0 := blk_frozen BK401.out 0
        have hfz7_1 := blk_frozen BK401.out 1
        go_wp2_with (first | ((with_reducible refine gate_callee (f := 20) rfl ?_); refine goesL_ (some 9) rfl rfl Try.func20 (by kernel_rfl) rfl #[.slice A0_0 l0_0.length c0_0] rfl (by (try simp only [List.map_toArray, List.map_cons, List.map_nil]); first | done | rfl | (simp only [List.length_drop, List.length_take]; rfl)) ?_; (with_reducible refine (impl_ClassesOk.calls k _ _ l0_0 true _ ?side1 ?side2 A4.out).mono ?_); (case side1 => repeat (first | exact (Kd.C_below HR0_0.out HB.out) | (with_reducible refine Kd.C_alloc ?_ _) | (with_reducible refine Kd.C_drewN ?_ _) | (with_reducible refine Kd.C_drew ?_))); (case side2 => exact HC0_0.out); rintro e w8 ⟨rfl, hb⟩; refine ⟨_, rfl, ?_⟩; have n0_ := Aside0.mk (blk_below (g := gb401) (o := .cells #[.slice A0_0 l0_0.length c0_0, .slice A0_1 l0_1.length c0_1] 31 (0, 0)) (by (with_reducible repeat (first | refine blk_drewN ?_ _ | refine blk_drew ?_ | refine blk_alloc ?_ _)); exact BK401.out) hb); have n1_ := Aside0.mk (below_step (by repeat (first | (with_reducible first | exact HB.out | apply below_alloc | apply pw_below_drewN | apply below_drew1 | refine below_set ?_ GE401.out) | exact HB.out)) hb); clear BK401; clear HB; have BK401 := n0_; have HB := n1_; clear n0_ n1_; (try clear hb); (try clear hb2); (try clear hk); (try clear hi); have hcz9_0 : w8.cell? ⟨gb401, 0, none⟩ = some (.slice A0_0 l0_0.length c0_0) := (blk_cell BK401.out 0).trans rfl; have hcz9_1 : w8.cell? ⟨gb401, 1, none⟩ = some (.slice A0_1 l0_1.length c0_1) := (blk_cell BK401.out 1).trans rfl; have hfz9_0 := blk_frozen BK401.out 0; have hfz9_1 := blk_frozen BK401.out 1))
        go_meet
        case rel => exact ⟨_, (true), (by first | rfl | (simp; done) | (simp [*]; done)), H', ⟨by first | omega | exact Nat.le_refl _⟩, ⟨by (with_reducible repeat (first | refine blk_drewN ?_ _ | refine blk_drew ?_ | refine blk_alloc ?_ _)); exact BK401.out⟩, ⟨by repeat (first | (with_reducible first | exact HB.out | apply below_alloc | apply pw_below_drewN | apply below_drew1 | refine below_set ?_ GE401.out) | exact HB.out)⟩⟩
      · rw [if_neg c6] at H
        have c6b0 : decide ((l0_1.length : Int) < 1) = false := decide_eq_false c6
        have c6b1 : decide (l0_1.length < 1) = false := decide_eq_false (by omega)
        clear c6
        (first | rw [c6b0] | (simp only [i64_w, i32_w]; rw [c6b0]) | skip)
        have H' := Aside0.mk H
        clear H
        have hcz10_0 : w3.cell? ⟨gb401, 0, none⟩ = some (.slice A0_0 l0_0.length c0_0) := (blk_cell BK401.out 0).trans rfl
        have hcz10_1 : w3.cell? ⟨gb401, 1, none⟩ = some (.slice A0_1 l0_1.length c0_1) := (blk_cell BK401.out 1).trans rfl
        have hfz10_0 := blk_frozen BK401.out 0
        have hfz10_1 := blk_frozen BK401.out 1
        go_wp2_with (first | ((with_reducible refine gate_callee (f := 20) rfl ?_); refine goesL_ (some 9) rfl rfl Try.func20 (by kernel_rfl) rfl #[.slice A0_0 l0_0.length c0_0] rfl (by (try simp only [List.map_toArray, List.map_cons, List.map_nil]); first | done | rfl | (simp only [List.length_drop, List.length_take]; rfl)) ?_; (with_reducible refine (impl_ClassesOk.calls k _ _ l0_0 true _ ?side1 ?side2 A4.out).mono ?_); (case side1 => repeat (first | exact (Kd.C_below HR0_0.out HB.out) | (with_reducible refine Kd.C_alloc ?_ _) | (with_reducible refine Kd.C_drewN ?_ _) | (with_reducible refine Kd.C_drew ?_))); (case side2 => exact HC0_0.out); rintro e w11 ⟨rfl, hb⟩; refine ⟨_, rfl, ?_⟩; have n0_ := Aside0.mk (blk_below (g := gb401) (o := .cells #[.slice A0_0 l0_0.length c0_0, .slice A0_1 l0_1.length c0_1] 31 (0, 0)) (by (with_reducible repeat (first | refine blk_drewN ?_ _ | refine blk_drew ?_ | refine blk_alloc ?_ _)); exact BK401.out) hb); have n1_ := Aside0.mk (below_step (by repeat (first | (with_reducible first | exact HB.out | apply below_alloc | apply pw_below_drewN | apply below_drew1 | refine below_set ?_ GE401.out) | exact HB.out)) hb); clear BK401; clear HB; have BK401 := n0_; have HB := n1_; clear n0_ n1_; (try clear hb); (try clear hb2); (try clear hk); (try clear hi); have hcz12_0 : w11.cell? ⟨gb401, 0, none⟩ = some (.slice A0_0 l0_0.length c0_0) := (blk_cell BK401.out 0).trans rfl; have hcz12_1 : w11.cell? ⟨gb401, 1, none⟩ = some (.slice A0_1 l0_1.length c0_1) := (blk_cell BK401.out 1).trans rfl; have hfz12_0 := blk_frozen BK401.out 0; have hfz12_1 := blk_frozen BK401.out 1))
        go_meet
        case rel => exact ⟨_, (decide ((l0_1.length : Int) > 4)), (by first | rfl | (simp; done) | (simp [*]; done)), H', ⟨by first | omega | exact Nat.le_refl _⟩, ⟨by (with_reducible repeat (first | refine blk_drewN ?_ _ | refine blk_drew ?_ | refine blk_alloc ?_ _)); exact BK401.out⟩, ⟨by repeat (first | (with_reducible first | exact HB.out | apply below_alloc | apply pw_below_drewN | apply below_drew1 | refine below_set ?_ GE401.out) | exact HB.out)⟩⟩
    · replace c5 := Bool.eq_false_iff.mpr c5
      subst c5
      have H1 : (impl_UnitOk.j0 k true l0_0 l0_1) = some r := by rw [if_neg (show ¬ (false = true) by decide)] at H; exact H
      clear H
      have H := H1
      clear H1
      have H' := Aside0.mk H
      clear H
      have hcz13_0 : w3.cell? ⟨gb401, 0, none⟩ = some (.slice A0_0 l0_0.length c0_0) := (blk_cell BK401.out 0).trans rfl
      have hcz13_1 : w3.cell? ⟨gb401, 1, none⟩ = some (.slice A0_1 l0_1.length c0_1) := (blk_cell BK401.out 1).trans rfl
      have hfz13_0 := blk_frozen BK401.out 0
      have hfz13_1 := blk_frozen BK401.out 1
      go_wp2_with (first | ((with_reducible refine gate_callee (f := 20) rfl ?_); refine goesL_ (some 9) rfl rfl Try.func20 (by kernel_rfl) rfl #[.slice A0_0 l0_0.length c0_0] rfl (by (try simp only [List.map_toArray, List.map_cons, List.map_nil]); first | done | rfl | (simp only [List.length_drop, List.length_take]; rfl)) ?_; (with_reducible refine (impl_ClassesOk.calls k _ _ l0_0 false _ ?side1 ?side2 A4.out).mono ?_); (case side1 => repeat (first | exact (Kd.C_below HR0_0.out HB.out) | (with_reducible refine Kd.C_alloc ?_ _) | (with_reducible refine Kd.C_drewN ?_ _) | (with_reducible refine Kd.C_drew ?_))); (case side2 => exact HC0_0.out); rintro e w14 ⟨rfl, hb⟩; refine ⟨_, rfl, ?_⟩; have n0_ := Aside0.mk (blk_below (g := gb401) (o := .cells #[.slice A0_0 l0_0.length c0_0, .slice A0_1 l0_1.length c0_1] 31 (0, 0)) (by (with_reducible repeat (first | refine blk_drewN ?_ _ | refine blk_drew ?_ | refine blk_alloc ?_ _)); exact BK401.out) hb); have n1_ := Aside0.mk (below_step (by repeat (first | (with_reducible first | exact HB.out | apply below_alloc | apply pw_below_drewN | apply below_drew1 | refine below_set ?_ GE401.out) | exact HB.out)) hb); clear BK401; clear HB; have BK401 := n0_; have HB := n1_; clear n0_ n1_; (try clear hb); (try clear hb2); (try clear hk); (try clear hi)))
      go_meet
      case rel => exact ⟨_, (true), (by first | rfl | (simp; done) | (simp [*]; done)), H', ⟨by first | omega | exact Nat.le_refl _⟩, ⟨by (with_reducible repeat (first | refine blk_drewN ?_ _ | refine blk_drew ?_ | refine blk_alloc ?_ _)); exact BK401.out⟩, ⟨by repeat (first | (with_reducible first | exact HB.out | apply below_alloc | apply pw_below_drewN | apply below_drew1 | refine below_set ?_ GE401.out) | exact HB.out)⟩⟩
  case rest =>
    clear HC2
    try clear c2
    try clear p2
    try clear c5
    try clear c6
    try clear c6b0
    try clear c6b1
    try clear c8
    try clear hcz10_0
    try clear hcz10_1
    try clear hcz12_0
    try clear hcz12_1
    try clear hcz13_0
    try clear hcz13_1
    try clear hcz7_0
    try clear hcz7_1
    try clear hcz9_0
    try clear hcz9_1
    try clear hfz10_0
    try clear hfz10_1
    try clear hfz12_0
    try clear hfz12_1
    try clear hfz13_0
    try clear hfz13_1
    try clear hfz7_0
    try clear hfz7_1
    try clear hfz9_0
    try clear hfz9_1
    obtain ⟨kq, x22_1, rfl, HA, HJ1, BK401, HB⟩ := hcut
    cases kq with
    | zero => exact absurd HA.out (by simp [impl_UnitOk.j0])
    | succ kj1 =>
      have H := HA.out
      clear HA
      simp only [impl_UnitOk.j0] at H
      by_cases c15 : x22_1 = true
      · subst c15
        have H1 : (some false) = some r := by rw [if_pos rfl] at H; exact H
        clear H
        have H := H1
        clear H1
        obtain rfl := Option.some.inj H
        simp only [Option.some.injEq, Prod.mk.injEq] at H
        obtain ⟨rfl⟩ := H
        go_wp2
        go_ret
        exact ⟨by first | rfl | (simp [errW_none, errW_some] <;> rfl) | (simp [*, errW_none, errW_some] <;> rfl), by repeat (first | (with_reducible first | exact HB.out | apply below_alloc | apply pw_below_drewN | apply below_drew1 | refine below_set ?_ GE401.out) | exact HB.out)⟩
      · replace c15 := Bool.eq_false_iff.mpr c15
        subst c15
        have H1 : (if 0 < (l0_1.length : Int) then (if ((rd_T46 l0_1 0).f0) = (-1) then (if (((rd_T46 l0_1 0).f2).length : Int) = 0 then (impl_UnitOk.j1 kj1 (((rd_T46 l0_1 0).f3) != 1) l0_0 l0_1) else (impl_UnitOk.j1 kj1 true l0_0 l0_1)) else (impl_UnitOk.j1 kj1 true l0_0 l0_1)) else (none)) = some r := by rw [if_neg (show ¬ (false = true) by decide)] at H; exact H
        clear H
        have H := H1
        clear H1
        by_cases c16 : 0 < (l0_1.length : Int)
        · rw [if_pos c16] at H
          have c16b0 : decide (0 < (l0_1.length : Int)) = true := decide_eq_true c16
          have c16b1 : decide (0 < l0_1.length) = true := decide_eq_true (by omega)
          clear c16
          have HC17 := Aside0.mk H
          clear H
          have hcz18_0 : wc.cell? ⟨gb401, 0, none⟩ = some (.slice A0_0 l0_0.length c0_0) := (blk_cell BK401.out 0).trans rfl
          have hcz18_1 : wc.cell? ⟨gb401, 1, none⟩ = some (.slice A0_1 l0_1.length c0_1) := (blk_cell BK401.out 1).trans rfl
          have hfz18_0 := blk_frozen BK401.out 0
          have hfz18_1 := blk_frozen BK401.out 1
          have p403 : 0 ≤ (0 : Int) := (by omega)
          have q403 : 0 < (l0_1.length : Int) := of_decide_eq_true (by first | (with_reducible assumption) | assumption)
          obtain ⟨ad403, A403_2, c403_2, A403_5, c403_5, A403_6, c403_6, A403_7, c403_7, e403, hx403_0, hx403_1, hx403_2, hx403_3, hx403_4, hx403_5, hx403_6, hx403_7, hl403_2, hi403_2, hl403_5, hi403_5, hl403_6, hi403_6, hl403_7, hi403_7⟩ := at_T46 HR0_1.out 0 p403 q403
          cases e403
          have qi403 : (0 < l0_1.length) = True := eq_true (by omega)
          (try rw [show ((0 : Int)).toNat = 0 from rfl] at hx403_0)
          (try rw [show 0 * 8 = 0 from rfl] at hx403_0)
          (try rw [Addr.add_zero'] at hx403_0)
          (try rw [show ((0 : Int)).toNat = 0 from rfl] at hx403_1)
          (try rw [show 0 * 8 = 0 from rfl] at hx403_1)
          (try rw [Addr.add_zero'] at hx403_1)
          (try rw [show ((0 : Int)).toNat = 0 from rfl] at hx403_2)
          (try rw [show 0 * 8 = 0 from rfl] at hx403_2)
          (try rw [Addr.add_zero'] at hx403_2)
          (try rw [show ((0 : Int)).toNat = 0 from rfl] at hx403_3)
          (try rw [show 0 * 8 = 0 from rfl] at hx403_3)
          (try rw [Addr.add_zero'] at hx403_3)
          (try rw [show ((0 : Int)).toNat = 0 from rfl] at hx403_4)
          (try rw [show 0 * 8 = 0 from rfl] at hx403_4)
          (try rw [Addr.add_zero'] at hx403_4)
          (try rw [show ((0 : Int)).toNat = 0 from rfl] at hx403_5)
          (try rw [show 0 * 8 = 0 from rfl] at hx403_5)
          (try rw [Addr.add_zero'] at hx403_5)
          (try rw [show ((0 : Int)).toNat = 0 from rfl] at hx403_6)
          (try rw [show 0 * 8 = 0 from rfl] at hx403_6)
          (try rw [Addr.add_zero'] at hx403_6)
          (try rw [show ((0 : Int)).toNat = 0 from rfl] at hx403_7)
          (try rw [show 0 * 8 = 0 from rfl] at hx403_7)
          (try rw [Addr.add_zero'] at hx403_7)
          replace hx403_0 := (HB.out.cell (World.block_lt_of_cell? w _ hx403_0)).trans hx403_0
          replace hx403_1 := (HB.out.cell (World.block_lt_of_cell? w _ hx403_1)).trans hx403_1
          replace hx403_2 := (HB.out.cell (World.block_lt_of_cell? w _ hx403_2)).trans hx403_2
          replace hx403_3 := (HB.out.cell (World.block_lt_of_cell? w _ hx403_3)).trans hx403_3
          replace hx403_4 := (HB.out.cell (World.block_lt_of_cell? w _ hx403_4)).trans hx403_4
          replace hx403_5 := (HB.out.cell (World.block_lt_of_cell? w _ hx403_5)).trans hx403_5
          replace hx403_6 := (HB.out.cell (World.block_lt_of_cell? w _ hx403_6)).trans hx403_6
          replace hx403_7 := (HB.out.cell (World.block_lt_of_cell? w _ hx403_7)).trans hx403_7
          have HR403_2 := Aside0.mk hi403_2
          have HC403_2 := Aside0.mk hl403_2
          clear hi403_2 hl403_2
          have HR403_5 := Aside0.mk hi403_5
          have HC403_5 := Aside0.mk hl403_5
          clear hi403_5 hl403_5
          have HR403_6 := Aside0.mk hi403_6
          have HC403_6 := Aside0.mk hl403_6
          clear hi403_6 hl403_6
          have HR403_7 := Aside0.mk hi403_7
          have HC403_7 := Aside0.mk hl403_7
          clear hi403_7 hl403_7
          replace p403 := eq_true p403
          replace q403 := eq_true q403
          go_upto_region 4 with (first | ((with_reducible refine gate_dst (N := 3) rfl ?_); (try (refine gate_guard (by rfl) ?_; dsimp only)); refine box_event ?hg (N := 3) ?hd (cs := #[.int .i64 0, .int .i64 0, .slice none 0 0, .int .i64 0, .int .i64 0, .slice none 0 0, .slice none 0 0, .slice none 0 0]) (t := 46) ?hr ?_; (case hd => rfl); (case hg => rfl); (case hr => first | (go_simp; done) | (go_simp; rfl)); intro gb404 hg w19 hbox hb; have n0_ := Aside0.mk (blk_below (g := gb401) (o := .cells #[.slice A0_0 l0_0.length c0_0, .slice (some ad403) l0_1.length c0_1] 31 (0, 0)) (by (with_reducible repeat (first | refine blk_drewN ?_ _ | refine blk_drew ?_ | refine blk_alloc ?_ _)); exact BK401.out) hb); have n1_ := Aside0.mk (below_step (by repeat (first | (with_reducible first | exact HB.out | apply below_alloc | apply pw_below_drewN | apply below_drew1 | refine below_set ?_ GE401.out) | exact HB.out)) hb); have n2_ := Aside0.mk (hbox); have n3_ := Aside0.mk ((by rw [hg]; exact (below_size (by repeat (first | (with_reducible first | exact HB.out | apply below_alloc | apply pw_below_drewN | apply below_drew1 | refine below_set ?_ GE401.out) | exact HB.out))) : w.heap.size ≤ gb404)); have n4_ := Aside0.mk ((by rw [hg]; exact (below_size (by repeat (first | (with_reducible first | exact HB.out | apply below_alloc | apply pw_below_drewN | apply below_drew1 | refine below_set ?_ GE401.out) | exact HB.out))) : w.heap.size ≤ gb404)); have n5_ := Aside0.mk ((by rw [hg]; exact Nat.ne_of_lt (blk_lt (g := gb401) (o := .cells #[.slice A0_0 l0_0.length c0_0, .slice (some ad403) l0_1.length c0_1] 31 (0, 0)) (by (with_reducible repeat (first | refine blk_drewN ?_ _ | refine blk_drew ?_ | refine blk_alloc ?_ _)); exact BK401.out)) : gb401 ≠ gb404)); have n6_ := Aside0.mk ((by rw [hg]; exact Nat.ne_of_gt (blk_lt (g := gb401) (o := .cells #[.slice A0_0 l0_0.length c0_0, .slice (some ad403) l0_1.length c0_1] 31 (0, 0)) (by (with_reducible repeat (first | refine blk_drewN ?_ _ | refine blk_drew ?_ | refine blk_alloc ?_ _)); exact BK401.out)) : gb404 ≠ gb401)); clear BK401; clear HB; have BK401 := n0_; have HB := n1_; have BK404 := n2_; have GW404 := n3_; have GE404 := n4_; have NB401_404 := n5_; have NB404_401 := n6_; clear n0_ n1_ n2_ n3_ n4_ n5_ n6_; clear hb hbox hg; have hnb20 := NB404_401.out; have hnc20 := NB401_404.out; have hcz21_0 : w19.cell? ⟨gb404, 0, none⟩ = some (.int .i64 0) := (blk_cell BK404.out 0).trans rfl; have hcz21_1 : w19.cell? ⟨gb404, 1, none⟩ = some (.int .i64 0) := (blk_cell BK404.out 1).trans rfl; have hcz21_2 : w19.cell? ⟨gb404, 2, none⟩ = some (.slice none 0 0) := (blk_cell BK404.out 2).trans rfl; have hcz21_3 : w19.cell? ⟨gb404, 3, none⟩ = some (.int .i64 0) := (blk_cell BK404.out 3).trans rfl; have hcz21_4 : w19.cell? ⟨gb404, 4, none⟩ = some (.int .i64 0) := (blk_cell BK404.out 4).trans rfl; have hcz21_5 : w19.cell? ⟨gb404, 5, none⟩ = some (.slice none 0 0) := (blk_cell BK404.out 5).trans rfl; have hcz21_6 : w19.cell? ⟨gb404, 6, none⟩ = some (.slice none 0 0) := (blk_cell BK404.out 6).trans rfl; have hcz21_7 : w19.cell? ⟨gb404, 7, none⟩ = some (.slice none 0 0) := (blk_cell BK404.out 7).trans rfl; have hfz21_0 := blk_frozen BK404.out 0; have hfz21_1 := blk_frozen BK404.out 1; have hfz21_2 := blk_frozen BK404.out 2; have hfz21_3 := blk_frozen BK404.out 3; have hfz21_4 := blk_frozen BK404.out 4; have hfz21_5 := blk_frozen BK404.out 5; have hfz21_6 := blk_frozen BK404.out 6; have hfz21_7 := blk_frozen BK404.out 7))
          (try simp only [Act.put, List.setIfInBounds_toArray, List.set_cons_zero, List.set_cons_succ])
          go_cut [40] (fun v40 wc => ∃ (kq : Nat) (x40_16 : Bool), v40 = .bool x40_16 ∧ Aside0 (impl_UnitOk.j1 kq x40_16 l0_0 l0_1 = some r) ∧ Aside0 (kq ≤ kj1) ∧ Aside0 (wc.heap[gb401]? = some (.cells #[(.slice A0_0 l0_0.length c0_0), (.slice (some ad403) l0_1.length c0_1)] 31 (0, 0))) ∧ Aside0 (wc.heap[gb404]? = some (.cells #[.int .i64 ((rd_T46 l0_1 0).f0), .int .i64 ((rd_T46 l0_1 0).f1), (.slice A403_2 ((rd_T46 l0_1 0).f2).length c403_2), .int .i64 ((rd_T46 l0_1 0).f3), .int .i64 ((rd_T46 l0_1 0).f4), (.slice A403_5 ((rd_T46 l0_1 0).f5).length c403_5), (.slice A403_6 ((rd_T46 l0_1 0).f6).length c403_6), (.slice A403_7 ((rd_T46 l0_1 0).f7).length c403_7)] 46 (0, 0))) ∧ Aside0 (Below w.heap.size w wc))
          case first =>
            have H := HC17.out
            clear HC17
            by_cases c22 : ((rd_T46 l0_1 0).f0) = (-1)
            · rw [if_pos c22] at H
              have c22b0 : (((rd_T46 l0_1 0).f0) == (-1)) = true := beq_iff_eq.mpr c22
              have c22b1 : (((rd_T46 l0_1 0).f0) != (-1)) = false := bne_eq_false_iff_eq.mpr c22
              clear c22
              (first | rw [c22b0] | (simp only [i64_w, i32_w]; rw [c22b0]) | skip)
              by_cases c23 : (((rd_T46 l0_1 0).f2).length : Int) = 0
              · rw [if_pos c23] at H
                have c23b0 : ((((rd_T46 l0_1 0).f2).length : Int) == 0) = true := beq_iff_eq.mpr c23
                have c23b1 : ((((rd_T46 l0_1 0).f2).length : Int) != 0) = false := bne_eq_false_iff_eq.mpr c23
                clear c23
                have H' := Aside0.mk H
                clear H
                have hnb24 := NB404_401.out
                have hnc24 := NB401_404.out
                have hcz25_0 : w19.cell? ⟨gb404, 0, none⟩ = some (.int .i64 0) := (blk_cell BK404.out 0).trans rfl
                have hcz25_1 : w19.cell? ⟨gb404, 1, none⟩ = some (.int .i64 0) := (blk_cell BK404.out 1).trans rfl
                have hcz25_2 : w19.cell? ⟨gb404, 2, none⟩ = some (.slice none 0 0) := (blk_cell BK404.out 2).trans rfl
                have hcz25_3 : w19.cell? ⟨gb404, 3, none⟩ = some (.int .i64 0) := (blk_cell BK404.out 3).trans rfl
                have hcz25_4 : w19.cell? ⟨gb404, 4, none⟩ = some (.int .i64 0) := (blk_cell BK404.out 4).trans rfl
                have hcz25_5 : w19.cell? ⟨gb404, 5, none⟩ = some (.slice none 0 0) := (blk_cell BK404.out 5).trans rfl
                have hcz25_6 : w19.cell? ⟨gb404, 6, none⟩ = some (.slice none 0 0) := (blk_cell BK404.out 6).trans rfl
                have hcz25_7 : w19.cell? ⟨gb404, 7, none⟩ = some (.slice none 0 0) := (blk_cell BK404.out 7).trans rfl
                have hfz25_0 := blk_frozen BK404.out 0
                have hfz25_1 := blk_frozen BK404.out 1
                have hfz25_2 := blk_frozen BK404.out 2
                have hfz25_3 := blk_frozen BK404.out 3
                have hfz25_4 := blk_frozen BK404.out 4
                have hfz25_5 := blk_frozen BK404.out 5
                have hfz25_6 := blk_frozen BK404.out 6
                have hfz25_7 := blk_frozen BK404.out 7
                go_wp2
                go_meet
                case rel => exact ⟨_, ((((rd_T46 l0_1 0).f3) != 1)), (by first | rfl | (simp; done) | (simp [*]; done)), H', ⟨by have := HJ1.out; first | omega | exact Nat.le_refl _⟩, ⟨by (with_reducible repeat (first | refine blk_drewN ?_ _ | refine blk_drew ?_ | refine blk_alloc ?_ _)); refine blk_far ?_ NB401_404.out _; (with_reducible repeat (first | refine blk_drewN ?_ _ | refine blk_drew ?_ | refine blk_alloc ?_ _)); refine blk_far ?_ NB401_404.out _; (with_reducible repeat (first | refine blk_drewN ?_ _ | refine blk_drew ?_ | refine blk_alloc ?_ _)); refine blk_far ?_ NB401_404.out _; (with_reducible repeat (first | refine blk_drewN ?_ _ | refine blk_drew ?_ | refine blk_alloc ?_ _)); refine blk_far ?_ NB401_404.out _; (with_reducible repeat (first | refine blk_drewN ?_ _ | refine blk_drew ?_ | refine blk_alloc ?_ _)); refine blk_far ?_ NB401_404.out _; (with_reducible repeat (first | refine blk_drewN ?_ _ | refine blk_drew ?_ | refine blk_alloc ?_ _)); refine blk_far ?_ NB401_404.out _; (with_reducible repeat (first | refine blk_drewN ?_ _ | refine blk_drew ?_ | refine blk_alloc ?_ _)); refine blk_far ?_ NB401_404.out _; (with_reducible repeat (first | refine blk_drewN ?_ _ | refine blk_drew ?_ | refine blk_alloc ?_ _)); refine blk_far ?_ NB401_404.out _; (with_reducible repeat (first | refine blk_drewN ?_ _ | refine blk_drew ?_ | refine blk_alloc ?_ _)); exact BK401.out⟩, ⟨by (with_reducible repeat (first | refine blk_drewN ?_ _ | refine blk_drew ?_ | refine blk_alloc ?_ _)); refine blk_put (cs := #[.int .i64 ((rd_T46 l0_1 0).f0), .int .i64 ((rd_T46 l0_1 0).f1), .slice A403_2 ((rd_T46 l0_1 0).f2).length c403_2, .int .i64 ((rd_T46 l0_1 0).f3), .int .i64 ((rd_T46 l0_1 0).f4), .slice A403_5 ((rd_T46 l0_1 0).f5).length c403_5, .slice A403_6 ((rd_T46 l0_1 0).f6).length c403_6, .slice none 0 0]) ?_ 7 _ rfl; (with_reducible repeat (first | refine blk_drewN ?_ _ | refine blk_drew ?_ | refine blk_alloc ?_ _)); refine blk_put (cs := #[.int .i64 ((rd_T46 l0_1 0).f0), .int .i64 ((rd_T46 l0_1 0).f1), .slice A403_2 ((rd_T46 l0_1 0).f2).length c403_2, .int .i64 ((rd_T46 l0_1 0).f3), .int .i64 ((rd_T46 l0_1 0).f4), .slice A403_5 ((rd_T46 l0_1 0).f5).length c403_5, .slice none 0 0, .slice none 0 0]) ?_ 6 _ rfl; (with_reducible repeat (first | refine blk_drewN ?_ _ | refine blk_drew ?_ | refine blk_alloc ?_ _)); refine blk_put (cs := #[.int .i64 ((rd_T46 l0_1 0).f0), .int .i64 ((rd_T46 l0_1 0).f1), .slice A403_2 ((rd_T46 l0_1 0).f2).length c403_2, .int .i64 ((rd_T46 l0_1 0).f3), .int .i64 ((rd_T46 l0_1 0).f4), .slice none 0 0, .slice none 0 0, .slice none 0 0]) ?_ 5 _ rfl; (with_reducible repeat (first | refine blk_drewN ?_ _ | refine blk_drew ?_ | refine blk_alloc ?_ _)); refine blk_put (cs := #[.int .i64 ((rd_T46 l0_1 0).f0), .int .i64 ((rd_T46 l0_1 0).f1), .slice A403_2 ((rd_T46 l0_1 0).f2).length c403_2, .int .i64 ((rd_T46 l0_1 0).f3), .int .i64 0, .slice none 0 0, .slice none 0 0, .slice none 0 0]) ?_ 4 _ rfl; (with_reducible repeat (first | refine blk_drewN ?_ _ | refine blk_drew ?_ | refine blk_alloc ?_ _)); refine blk_put (cs := #[.int .i64 ((rd_T46 l0_1 0).f0), .int .i64 ((rd_T46 l0_1 0).f1), .slice A403_2 ((rd_T46 l0_1 0).f2).length c403_2, .int .i64 0, .int .i64 0, .slice none 0 0, .slice none 0 0, .slice none 0 0]) ?_ 3 _ rfl; (with_reducible repeat (first | refine blk_drewN ?_ _ | refine blk_drew ?_ | refine blk_alloc ?_ _)); refine blk_put (cs := #[.int .i64 ((rd_T46 l0_1 0).f0), .int .i64 ((rd_T46 l0_1 0).f1), .slice none 0 0, .int .i64 0, .int .i64 0, .slice none 0 0, .slice none 0 0, .slice none 0 0]) ?_ 2 _ rfl; (with_reducible repeat (first | refine blk_drewN ?_ _ | refine blk_drew ?_ | refine blk_alloc ?_ _)); refine blk_put (cs := #[.int .i64 ((rd_T46 l0_1 0).f0), .int .i64 0, .slice none 0 0, .int .i64 0, .int .i64 0, .slice none 0 0, .slice none 0 0, .slice none 0 0]) ?_ 1 _ rfl; (with_reducible repeat (first | refine blk_drewN ?_ _ | refine blk_drew ?_ | refine blk_alloc ?_ _)); refine blk_put (cs := #[.int .i64 0, .int .i64 0, .slice none 0 0, .int .i64 0, .int .i64 0, .slice none 0 0, .slice none 0 0, .slice none 0 0]) ?_ 0 _ rfl; (with_reducible repeat (first | refine blk_drewN ?_ _ | refine blk_drew ?_ | refine blk_alloc ?_ _)); exact BK404.out⟩, ⟨by repeat (first | (with_reducible first | exact HB.out | apply below_alloc | apply pw_below_drewN | apply below_drew1 | refine below_set ?_ GE401.out | refine below_set ?_ GE404.out) | exact HB.out)⟩⟩
              · rw [if_neg c23] at H
                have c23b0 : ((((rd_T46 l0_1 0).f2).length : Int) == 0) = false := beq_eq_false_iff_ne.mpr c23
                have c23b1 : ((((rd_T46 l0_1 0).f2).length : Int) != 0) = true := bne_iff_ne.mpr c23
                have c23b2 : ¬ (((rd_T46 l0_1 0).f2) = []) := fun h_ => c23 (by rw [h_]; rfl)
                have H' := Aside0.mk H
                clear H
                have hnb26 := NB404_401.out
                have hnc26 := NB401_404.out
                have hcz27_0 : w19.cell? ⟨gb404, 0, none⟩ = some (.int .i64 0) := (blk_cell BK404.out 0).trans rfl
                have hcz27_1 : w19.cell? ⟨gb404, 1, none⟩ = some (.int .i64 0) := (blk_cell BK404.out 1).trans rfl
                have hcz27_2 : w19.cell? ⟨gb404, 2, none⟩ = some (.slice none 0 0) := (blk_cell BK404.out 2).trans rfl
                have hcz27_3 : w19.cell? ⟨gb404, 3, none⟩ = some (.int .i64 0) := (blk_cell BK404.out 3).trans rfl
                have hcz27_4 : w19.cell? ⟨gb404, 4, none⟩ = some (.int .i64 0) := (blk_cell BK404.out 4).trans rfl
                have hcz27_5 : w19.cell? ⟨gb404, 5, none⟩ = some (.slice none 0 0) := (blk_cell BK404.out 5).trans rfl
                have hcz27_6 : w19.cell? ⟨gb404, 6, none⟩ = some (.slice none 0 0) := (blk_cell BK404.out 6).trans rfl
                have hcz27_7 : w19.cell? ⟨gb404, 7, none⟩ = some (.slice none 0 0) := (blk_cell BK404.out 7).trans rfl
                have hfz27_0 := blk_frozen BK404.out 0
                have hfz27_1 := blk_frozen BK404.out 1
                have hfz27_2 := blk_frozen BK404.out 2
                have hfz27_3 := blk_frozen BK404.out 3
                have hfz27_4 := blk_frozen BK404.out 4
                have hfz27_5 := blk_frozen BK404.out 5
                have hfz27_6 := blk_frozen BK404.out 6
                have hfz27_7 := blk_frozen BK404.out 7
                go_wp2
                go_meet
                case rel => exact ⟨_, (true), (by first | rfl | (simp; done) | (simp [*]; done)), H', ⟨by have := HJ1.out; first | omega | exact Nat.le_refl _⟩, ⟨by (with_reducible repeat (first | refine blk_drewN ?_ _ | refine blk_drew ?_ | refine blk_alloc ?_ _)); refine blk_far ?_ NB401_404.out _; (with_reducible repeat (first | refine blk_drewN ?_ _ | refine blk_drew ?_ | refine blk_alloc ?_ _)); refine blk_far ?_ NB401_404.out _; (with_reducible repeat (first | refine blk_drewN ?_ _ | refine blk_drew ?_ | refine blk_alloc ?_ _)); refine blk_far ?_ NB401_404.out _; (with_reducible repeat (first | refine blk_drewN ?_ _ | refine blk_drew ?_ | refine blk_alloc ?_ _)); refine blk_far ?_ NB401_404.out _; (with_reducible repeat (first | refine blk_drewN ?_ _ | refine blk_drew ?_ | refine blk_alloc ?_ _)); refine blk_far ?_ NB401_404.out _; (with_reducible repeat (first | refine blk_drewN ?_ _ | refine blk_drew ?_ | refine blk_alloc ?_ _)); refine blk_far ?_ NB401_404.out _; (with_reducible repeat (first | refine blk_drewN ?_ _ | refine blk_drew ?_ | refine blk_alloc ?_ _)); refine blk_far ?_ NB401_404.out _; (with_reducible repeat (first | refine blk_drewN ?_ _ | refine blk_drew ?_ | refine blk_alloc ?_ _)); refine blk_far ?_ NB401_404.out _; (with_reducible repeat (first | refine blk_drewN ?_ _ | refine blk_drew ?_ | refine blk_alloc ?_ _)); exact BK401.out⟩, ⟨by (with_reducible repeat (first | refine blk_drewN ?_ _ | refine blk_drew ?_ | refine blk_alloc ?_ _)); refine blk_put (cs := #[.int .i64 ((rd_T46 l0_1 0).f0), .int .i64 ((rd_T46 l0_1 0).f1), .slice A403_2 ((rd_T46 l0_1 0).f2).length c403_2, .int .i64 ((rd_T46 l0_1 0).f3), .int .i64 ((rd_T46 l0_1 0).f4), .slice A403_5 ((rd_T46 l0_1 0).f5).length c403_5, .slice A403_6 ((rd_T46 l0_1 0).f6).length c403_6, .slice none 0 0]) ?_ 7 _ rfl; (with_reducible repeat (first | refine blk_drewN ?_ _ | refine blk_drew ?_ | refine blk_alloc ?_ _)); refine blk_put (cs := #[.int .i64 ((rd_T46 l0_1 0).f0), .int .i64 ((rd_T46 l0_1 0).f1), .slice A403_2 ((rd_T46 l0_1 0).f2).length c403_2, .int .i64 ((rd_T46 l0_1 0).f3), .int .i64 ((rd_T46 l0_1 0).f4), .slice A403_5 ((rd_T46 l0_1 0).f5).length c403_5, .slice none 0 0, .slice none 0 0]) ?_ 6 _ rfl; (with_reducible repeat (first | refine blk_drewN ?_ _ | refine blk_drew ?_ | refine blk_alloc ?_ _)); refine blk_put (cs := #[.int .i64 ((rd_T46 l0_1 0).f0), .int .i64 ((rd_T46 l0_1 0).f1), .slice A403_2 ((rd_T46 l0_1 0).f2).length c403_2, .int .i64 ((rd_T46 l0_1 0).f3), .int .i64 ((rd_T46 l0_1 0).f4), .slice none 0 0, .slice none 0 0, .slice none 0 0]) ?_ 5 _ rfl; (with_reducible repeat (first | refine blk_drewN ?_ _ | refine blk_drew ?_ | refine blk_alloc ?_ _)); refine blk_put (cs := #[.int .i64 ((rd_T46 l0_1 0).f0), .int .i64 ((rd_T46 l0_1 0).f1), .slice A403_2 ((rd_T46 l0_1 0).f2).length c403_2, .int .i64 ((rd_T46 l0_1 0).f3), .int .i64 0, .slice none 0 0, .slice none 0 0, .slice none 0 0]) ?_ 4 _ rfl; (with_reducible repeat (first | refine blk_drewN ?_ _ | refine blk_drew ?_ | refine blk_alloc ?_ _)); refine blk_put (cs := #[.int .i64 ((rd_T46 l0_1 0).f0), .int .i64 ((rd_T46 l0_1 0).f1), .slice A403_2 ((rd_T46 l0_1 0).f2).length c403_2, .int .i64 0, .int .i64 0, .slice none 0 0, .slice none 0 0, .slice none 0 0]) ?_ 3 _ rfl; (with_reducible repeat (first | refine blk_drewN ?_ _ | refine blk_drew ?_ | refine blk_alloc ?_ _)); refine blk_put (cs := #[.int .i64 ((rd_T46 l0_1 0).f0), .int .i64 ((rd_T46 l0_1 0).f1), .slice none 0 0, .int .i64 0, .int .i64 0, .slice none 0 0, .slice none 0 0, .slice none 0 0]) ?_ 2 _ rfl; (with_reducible repeat (first | refine blk_drewN ?_ _ | refine blk_drew ?_ | refine blk_alloc ?_ _)); refine blk_put (cs := #[.int .i64 ((rd_T46 l0_1 0).f0), .int .i64 0, .slice none 0 0, .int .i64 0, .int .i64 0, .slice none 0 0, .slice none 0 0, .slice none 0 0]) ?_ 1 _ rfl; (with_reducible repeat (first | refine blk_drewN ?_ _ | refine blk_drew ?_ | refine blk_alloc ?_ _)); refine blk_put (cs := #[.int .i64 0, .int .i64 0, .slice none 0 0, .int .i64 0, .int .i64 0, .slice none 0 0, .slice none 0 0, .slice none 0 0]) ?_ 0 _ rfl; (with_reducible repeat (first | refine blk_drewN ?_ _ | refine blk_drew ?_ | refine blk_alloc ?_ _)); exact BK404.out⟩, ⟨by repeat (first | (with_reducible first | exact HB.out | apply below_alloc | apply pw_below_drewN | apply below_drew1 | refine below_set ?_ GE401.out | refine below_set ?_ GE404.out) | exact HB.out)⟩⟩
            · rw [if_neg c22] at H
              have c22b0 : (((rd_T46 l0_1 0).f0) == (-1)) = false := beq_eq_false_iff_ne.mpr c22
              have c22b1 : (((rd_T46 l0_1 0).f0) != (-1)) = true := bne_iff_ne.mpr c22
              (first | rw [c22b0] | (simp only [i64_w, i32_w]; rw [c22b0]) | skip)
              have H' := Aside0.mk H
              clear H
              have hnb28 := NB404_401.out
              have hnc28 := NB401_404.out
              have hcz29_0 : w19.cell? ⟨gb404, 0, none⟩ = some (.int .i64 0) := (blk_cell BK404.out 0).trans rfl
              have hcz29_1 : w19.cell? ⟨gb404, 1, none⟩ = some (.int .i64 0) := (blk_cell BK404.out 1).trans rfl
              have hcz29_2 : w19.cell? ⟨gb404, 2, none⟩ = some (.slice none 0 0) := (blk_cell BK404.out 2).trans rfl
              have hcz29_3 : w19.cell? ⟨gb404, 3, none⟩ = some (.int .i64 0) := (blk_cell BK404.out 3).trans rfl
              have hcz29_4 : w19.cell? ⟨gb404, 4, none⟩ = some (.int .i64 0) := (blk_cell BK404.out 4).trans rfl
              have hcz29_5 : w19.cell? ⟨gb404, 5, none⟩ = some (.slice none 0 0) := (blk_cell BK404.out 5).trans rfl
              have hcz29_6 : w19.cell? ⟨gb404, 6, none⟩ = some (.slice none 0 0) := (blk_cell BK404.out 6).trans rfl
              have hcz29_7 : w19.cell? ⟨gb404, 7, none⟩ = some (.slice none 0 0) := (blk_cell BK404.out 7).trans rfl
              have hfz29_0 := blk_frozen BK404.out 0
              have hfz29_1 := blk_frozen BK404.out 1
              have hfz29_2 := blk_frozen BK404.out 2
              have hfz29_3 := blk_frozen BK404.out 3
              have hfz29_4 := blk_frozen BK404.out 4
              have hfz29_5 := blk_frozen BK404.out 5
              have hfz29_6 := blk_frozen BK404.out 6
              have hfz29_7 := blk_frozen BK404.out 7
              go_wp2
              go_meet
              case rel => exact ⟨_, (true), (by first | rfl | (simp; done) | (simp [*]; done)), H', ⟨by have := HJ1.out; first | omega | exact Nat.le_refl _⟩, ⟨by (with_reducible repeat (first | refine blk_drewN ?_ _ | refine blk_drew ?_ | refine blk_alloc ?_ _)); refine blk_far ?_ NB401_404.out _; (with_reducible repeat (first | refine blk_drewN ?_ _ | refine blk_drew ?_ | refine blk_alloc ?_ _)); refine blk_far ?_ NB401_404.out _; (with_reducible repeat (first | refine blk_drewN ?_ _ | refine blk_drew ?_ | refine blk_alloc ?_ _)); refine blk_far ?_ NB401_404.out _; (with_reducible repeat (first | refine blk_drewN ?_ _ | refine blk_drew ?_ | refine blk_alloc ?_ _)); refine blk_far ?_ NB401_404.out _; (with_reducible repeat (first | refine blk_drewN ?_ _ | refine blk_drew ?_ | refine blk_alloc ?_ _)); refine blk_far ?_ NB401_404.out _; (with_reducible repeat (first | refine blk_drewN ?_ _ | refine blk_drew ?_ | refine blk_alloc ?_ _)); refine blk_far ?_ NB401_404.out _; (with_reducible repeat (first | refine blk_drewN ?_ _ | refine blk_drew ?_ | refine blk_alloc ?_ _)); refine blk_far ?_ NB401_404.out _; (with_reducible repeat (first | refine blk_drewN ?_ _ | refine blk_drew ?_ | refine blk_alloc ?_ _)); refine blk_far ?_ NB401_404.out _; (with_reducible repeat (first | refine blk_drewN ?_ _ | refine blk_drew ?_ | refine blk_alloc ?_ _)); exact BK401.out⟩, ⟨by (with_reducible repeat (first | refine blk_drewN ?_ _ | refine blk_drew ?_ | refine blk_alloc ?_ _)); refine blk_put (cs := #[.int .i64 ((rd_T46 l0_1 0).f0), .int .i64 ((rd_T46 l0_1 0).f1), .slice A403_2 ((rd_T46 l0_1 0).f2).length c403_2, .int .i64 ((rd_T46 l0_1 0).f3), .int .i64 ((rd_T46 l0_1 0).f4), .slice A403_5 ((rd_T46 l0_1 0).f5).length c403_5, .slice A403_6 ((rd_T46 l0_1 0).f6).length c403_6, .slice none 0 0]) ?_ 7 _ rfl; (with_reducible repeat (first | refine blk_drewN ?_ _ | refine blk_drew ?_ | refine blk_alloc ?_ _)); refine blk_put (cs := #[.int .i64 ((rd_T46 l0_1 0).f0), .int .i64 ((rd_T46 l0_1 0).f1), .slice A403_2 ((rd_T46 l0_1 0).f2).length c403_2, .int .i64 ((rd_T46 l0_1 0).f3), .int .i64 ((rd_T46 l0_1 0).f4), .slice A403_5 ((rd_T46 l0_1 0).f5).length c403_5, .slice none 0 0, .slice none 0 0]) ?_ 6 _ rfl; (with_reducible repeat (first | refine blk_drewN ?_ _ | refine blk_drew ?_ | refine blk_alloc ?_ _)); refine blk_put (cs := #[.int .i64 ((rd_T46 l0_1 0).f0), .int .i64 ((rd_T46 l0_1 0).f1), .slice A403_2 ((rd_T46 l0_1 0).f2).length c403_2, .int .i64 ((rd_T46 l0_1 0).f3), .int .i64 ((rd_T46 l0_1 0).f4), .slice none 0 0, .slice none 0 0, .slice none 0 0]) ?_ 5 _ rfl; (with_reducible repeat (first | refine blk_drewN ?_ _ | refine blk_drew ?_ | refine blk_alloc ?_ _)); refine blk_put (cs := #[.int .i64 ((rd_T46 l0_1 0).f0), .int .i64 ((rd_T46 l0_1 0).f1), .slice A403_2 ((rd_T46 l0_1 0).f2).length c403_2, .int .i64 ((rd_T46 l0_1 0).f3), .int .i64 0, .slice none 0 0, .slice none 0 0, .slice none 0 0]) ?_ 4 _ rfl; (with_reducible repeat (first | refine blk_drewN ?_ _ | refine blk_drew ?_ | refine blk_alloc ?_ _)); refine blk_put (cs := #[.int .i64 ((rd_T46 l0_1 0).f0), .int .i64 ((rd_T46 l0_1 0).f1), .slice A403_2 ((rd_T46 l0_1 0).f2).length c403_2, .int .i64 0, .int .i64 0, .slice none 0 0, .slice none 0 0, .slice none 0 0]) ?_ 3 _ rfl; (with_reducible repeat (first | refine blk_drewN ?_ _ | refine blk_drew ?_ | refine blk_alloc ?_ _)); refine blk_put (cs := #[.int .i64 ((rd_T46 l0_1 0).f0), .int .i64 ((rd_T46 l0_1 0).f1), .slice none 0 0, .int .i64 0, .int .i64 0, .slice none 0 0, .slice none 0 0, .slice none 0 0]) ?_ 2 _ rfl; (with_reducible repeat (first | refine blk_drewN ?_ _ | refine blk_drew ?_ | refine blk_alloc ?_ _)); refine blk_put (cs := #[.int .i64 ((rd_T46 l0_1 0).f0), .int .i64 0, .slice none 0 0, .int .i64 0, .int .i64 0, .slice none 0 0, .slice none 0 0, .slice none 0 0]) ?_ 1 _ rfl; (with_reducible repeat (first | refine blk_drewN ?_ _ | refine blk_drew ?_ | refine blk_alloc ?_ _)); refine blk_put (cs := #[.int .i64 0, .int .i64 0, .slice none 0 0, .int .i64 0, .int .i64 0, .slice none 0 0, .slice none 0 0, .slice none 0 0]) ?_ 0 _ rfl; (with_reducible repeat (first | refine blk_drewN ?_ _ | refine blk_drew ?_ | refine blk_alloc ?_ _)); exact BK404.out⟩, ⟨by repeat (first | (with_reducible first | exact HB.out | apply below_alloc | apply pw_below_drewN | apply below_drew1 | refine below_set ?_ GE401.out | refine below_set ?_ GE404.out) | exact HB.out)⟩⟩
          case rest =>
            clear HC17
            try clear c1
            try clear c2
            try clear p2
            try clear c4
            try clear p4
            try clear q4
            try clear hx4
            try clear qi4
            try clear c5
            try clear c6
            try clear c6b0
            try clear c6b1
            try clear c8
            try clear c15
            try clear c16
            try clear c16b0
            try clear c16b1
            try clear c20
            try clear c22
            try clear c22b0
            try clear c22b1
            try clear c23
            try clear c23b0
            try clear c23b1
            try clear c23b2
            try clear c24
            try clear c26
            try clear c28
            try clear hcz10_0
            try clear hcz10_1
            try clear hcz12_0
            try clear hcz12_1
            try clear hcz13_0
            try clear hcz13_1
            try clear hcz18_0
            try clear hcz18_1
            try clear hcz21_0
            try clear hcz21_1
            try clear hcz21_2
            try clear hcz21_3
            try clear hcz21_4
            try clear hcz21_5
            try clear hcz21_6
            try clear hcz21_7
            try clear hcz25_0
            try clear hcz25_1
            try clear hcz25_2
            try clear hcz25_3
            try clear hcz25_4
            try clear hcz25_5
            try clear hcz25_6
            try clear hcz25_7
            try clear hcz27_0
            try clear hcz27_1
            try clear hcz27_2
            try clear hcz27_3
            try clear hcz27_4
            try clear hcz27_5
            try clear hcz27_6
            try clear hcz27_7
            try clear hcz29_0
            try clear hcz29_1
            try clear hcz29_2
            try clear hcz29_3
            try clear hcz29_4
            try clear hcz29_5
            try clear hcz29_6
            try clear hcz29_7
            try clear hcz7_0
            try clear hcz7_1
            try clear hcz9_0
            try clear hcz9_1
            try clear hfz10_0
            try clear hfz10_1
            try clear hfz12_0
            try clear hfz12_1
            try clear hfz13_0
            try clear hfz13_1
            try clear hfz18_0
            try clear hfz18_1
            try clear hfz21_0
            try clear hfz21_1
            try clear hfz21_2
            try clear hfz21_3
            try clear hfz21_4
            try clear hfz21_5
            try clear hfz21_6
            try clear hfz21_7
            try clear hfz25_0
            try clear hfz25_1
            try clear hfz25_2
            try clear hfz25_3
            try clear hfz25_4
            try clear hfz25_5
            try clear hfz25_6
            try clear hfz25_7
            try clear hfz27_0
            try clear hfz27_1
            try clear hfz27_2
            try clear hfz27_3
            try clear hfz27_4
            try clear hfz27_5
            try clear hfz27_6
            try clear hfz27_7
            try clear hfz29_0
            try clear hfz29_1
            try clear hfz29_2
            try clear hfz29_3
            try clear hfz29_4
            try clear hfz29_5
            try clear hfz29_6
            try clear hfz29_7
            try clear hfz7_0
            try clear hfz7_1
            try clear hfz9_0
            try clear hfz9_1
            try clear hx403_0
            try clear hx403_1
            try clear hx403_2
            try clear hx403_3
            try clear hx403_4
            try clear hx403_5
            try clear hx403_6
            try clear hx403_7
            try clear p2
            try clear p403
            try clear q403
            obtain ⟨kq, x40_16, rfl, HA, HJ16, BK401, BK404, HB⟩ := hcut
            cases kq with
            | zero => exact absurd HA.out (by simp [impl_UnitOk.j1])
            | succ kj16 =>
              have H := HA.out
              clear HA
              simp only [impl_UnitOk.j1] at H
              by_cases c30 : x40_16 = true
              · subst c30
                have H1 : (some false) = some r := by rw [if_pos rfl] at H; exact H
                clear H
                have H := H1
                clear H1
                obtain rfl := Option.some.inj H
                simp only [Option.some.injEq, Prod.mk.injEq] at H
                obtain ⟨rfl⟩ := H
                go_wp2
                go_ret
                exact ⟨by first | rfl | (simp [errW_none, errW_some] <;> rfl) | (simp [*, errW_none, errW_some] <;> rfl), by repeat (first | (with_reducible first | exact HB.out | apply below_alloc | apply pw_below_drewN | apply below_drew1 | refine below_set ?_ GE401.out | refine below_set ?_ GE404.out) | exact HB.out)⟩
              · replace c30 := Bool.eq_false_iff.mpr c30
                subst c30
                have H1 : (impl_UnitOk.l0 kj16 l0_1 (l0_1.length : Int) 0 l0_0 l0_1) = some r := by rw [if_neg (show ¬ (false = true) by decide)] at H; exact H
                clear H
                have H := H1
                clear H1
                have H' := Aside0.mk H
                clear H
                go_wp2_with (first | ((with_reducible refine gate_callee (f := 21) rfl ?_); refine goesL_ (some 41) rfl rfl Try.func21 (by kernel_rfl) rfl #[] rfl (by (try simp only [List.map_toArray, List.map_cons, List.map_nil]); first | done | rfl) ?_; (refine (impl_wants.calls _).mono ?_); rintro e w31 ⟨gb405, rfl, hg, hbox, hb⟩; refine ⟨_, rfl, ?_⟩; have n0_ := Aside0.mk (blk_below (g := gb401) (o := .cells #[.slice A0_0 l0_0.length c0_0, .slice (some ad403) l0_1.length c0_1] 31 (0, 0)) (by (with_reducible repeat (first | refine blk_drewN ?_ _ | refine blk_drew ?_ | refine blk_alloc ?_ _)); exact BK401.out) hb); have n1_ := Aside0.mk (blk_below (g := gb404) (o := .cells #[.int .i64 ((rd_T46 l0_1 0).f0), .int .i64 ((rd_T46 l0_1 0).f1), .slice A403_2 ((rd_T46 l0_1 0).f2).length c403_2, .int .i64 ((rd_T46 l0_1 0).f3), .int .i64 ((rd_T46 l0_1 0).f4), .slice A403_5 ((rd_T46 l0_1 0).f5).length c403_5, .slice A403_6 ((rd_T46 l0_1 0).f6).length c403_6, .slice A403_7 ((rd_T46 l0_1 0).f7).length c403_7] 46 (0, 0)) (by (with_reducible repeat (first | refine blk_drewN ?_ _ | refine blk_drew ?_ | refine blk_alloc ?_ _)); exact BK404.out) hb); have n2_ := Aside0.mk (below_step (by repeat (first | (with_reducible first | exact HB.out | apply below_alloc | apply pw_below_drewN | apply below_drew1 | refine below_set ?_ GE401.out | refine below_set ?_ GE404.out) | exact HB.out)) hb); have n3_ := Aside0.mk (hbox); have n4_ := Aside0.mk ((by rw [hg]; exact (below_size (by repeat (first | (with_reducible first | exact HB.out | apply below_alloc | apply pw_below_drewN | apply below_drew1 | refine below_set ?_ GE401.out | refine below_set ?_ GE404.out) | exact HB.out))) : w.heap.size ≤ gb405)); have n5_ := Aside0.mk ((by rw [hg]; exact (below_size (by repeat (first | (with_reducible first | exact HB.out | apply below_alloc | apply pw_below_drewN | apply below_drew1 | refine below_set ?_ GE401.out | refine below_set ?_ GE404.out) | exact HB.out))) : w.heap.size ≤ gb405)); have n6_ := Aside0.mk ((by rw [hg]; exact Nat.ne_of_lt (blk_lt (g := gb401) (o := .cells #[.slice A0_0 l0_0.length c0_0, .slice (some ad403) l0_1.length c0_1] 31 (0, 0)) (by (with_reducible repeat (first | refine blk_drewN ?_ _ | refine blk_drew ?_ | refine blk_alloc ?_ _)); exact BK401.out)) : gb401 ≠ gb405)); have n7_ := Aside0.mk ((by rw [hg]; exact Nat.ne_of_gt (blk_lt (g := gb401) (o := .cells #[.slice A0_0 l0_0.length c0_0, .slice (some ad403) l0_1.length c0_1] 31 (0, 0)) (by (with_reducible repeat (first | refine blk_drewN ?_ _ | refine blk_drew ?_ | refine blk_alloc ?_ _)); exact BK401.out)) : gb405 ≠ gb401)); have n8_ := Aside0.mk ((by rw [hg]; exact Nat.ne_of_lt (blk_lt (g := gb404) (o := .cells #[.int .i64 ((rd_T46 l0_1 0).f0), .int .i64 ((rd_T46 l0_1 0).f1), .slice A403_2 ((rd_T46 l0_1 0).f2).length c403_2, .int .i64 ((rd_T46 l0_1 0).f3), .int .i64 ((rd_T46 l0_1 0).f4), .slice A403_5 ((rd_T46 l0_1 0).f5).length c403_5, .slice A403_6 ((rd_T46 l0_1 0).f6).length c403_6, .slice A403_7 ((rd_T46 l0_1 0).f7).length c403_7] 46 (0, 0)) (by (with_reducible repeat (first | refine blk_drewN ?_ _ | refine blk_drew ?_ | refine blk_alloc ?_ _)); exact BK404.out)) : gb404 ≠ gb405)); have n9_ := Aside0.mk ((by rw [hg]; exact Nat.ne_of_gt (blk_lt (g := gb404) (o := .cells #[.int .i64 ((rd_T46 l0_1 0).f0), .int .i64 ((rd_T46 l0_1 0).f1), .slice A403_2 ((rd_T46 l0_1 0).f2).length c403_2, .int .i64 ((rd_T46 l0_1 0).f3), .int .i64 ((rd_T46 l0_1 0).f4), .slice A403_5 ((rd_T46 l0_1 0).f5).length c403_5, .slice A403_6 ((rd_T46 l0_1 0).f6).length c403_6, .slice A403_7 ((rd_T46 l0_1 0).f7).length c403_7] 46 (0, 0)) (by (with_reducible repeat (first | refine blk_drewN ?_ _ | refine blk_drew ?_ | refine blk_alloc ?_ _)); exact BK404.out)) : gb405 ≠ gb404)); clear BK401; clear BK404; clear HB; have BK401 := n0_; have BK404 := n1_; have HB := n2_; have BK405 := n3_; have GW405 := n4_; have GE405 := n5_; have NB401_405 := n6_; have NB405_401 := n7_; have NB404_405 := n8_; have NB405_404 := n9_; clear n0_ n1_ n2_ n3_ n4_ n5_ n6_ n7_ n8_ n9_; clear hb hbox hg; have hnb32 := NB401_404.out; have hnc32 := NB404_401.out; have hnb33 := NB401_405.out; have hnc33 := NB405_401.out; have hcz34_0 : w31.cell? ⟨gb401, 0, none⟩ = some (.slice A0_0 l0_0.length c0_0) := (blk_cell BK401.out 0).trans rfl; have hcz34_1 : w31.cell? ⟨gb401, 1, none⟩ = some (.slice (some ad403) l0_1.length c0_1) := (blk_cell BK401.out 1).trans rfl; have hfz34_0 := blk_frozen BK401.out 0; have hfz34_1 := blk_frozen BK401.out 1))
                go_loopg [45] kj16 (fun kq v45 w' => ∃ (x45_3 : Int), v45 = .int .i64 x45_3 ∧ Aside0 (impl_UnitOk.l0 kq l0_1 (l0_1.length : Int) x45_3 l0_0 l0_1 = some r) ∧ Aside0 (kq ≤ kj16) ∧ Aside0 (w'.heap[gb401]? = some (.cells #[(.slice A0_0 l0_0.length c0_0), (.slice (some ad403) l0_1.length c0_1)] 31 (0, 0))) ∧ Aside0 (w'.heap[gb404]? = some (.cells #[.int .i64 ((rd_T46 l0_1 0).f0), .int .i64 ((rd_T46 l0_1 0).f1), (.slice A403_2 ((rd_T46 l0_1 0).f2).length c403_2), .int .i64 ((rd_T46 l0_1 0).f3), .int .i64 ((rd_T46 l0_1 0).f4), (.slice A403_5 ((rd_T46 l0_1 0).f5).length c403_5), (.slice A403_6 ((rd_T46 l0_1 0).f6).length c403_6), (.slice A403_7 ((rd_T46 l0_1 0).f7).length c403_7)] 46 (0, 0))) ∧ Aside0 (w'.heap[gb405]? = some (wantsO)) ∧ Aside0 (Below w.heap.size w w'))
                case atStart => exact ⟨(0), (by first | rfl | (simp; done) | (simp [*]; done)), H', ⟨Nat.le_refl _⟩, ⟨by (with_reducible repeat (first | refine blk_drewN ?_ _ | refine blk_drew ?_ | refine blk_alloc ?_ _)); exact BK401.out⟩, ⟨by (with_reducible repeat (first | refine blk_drewN ?_ _ | refine blk_drew ?_ | refine blk_alloc ?_ _)); exact BK404.out⟩, ⟨by (with_reducible repeat (first | refine blk_drewN ?_ _ | refine blk_drew ?_ | refine blk_alloc ?_ _)); exact BK405.out⟩, ⟨by repeat (first | (with_reducible first | exact HB.out | apply below_alloc | apply pw_below_drewN | apply below_drew1 | refine below_set ?_ GE401.out | refine below_set ?_ GE404.out | refine below_set ?_ GE405.out) | exact HB.out)⟩⟩
                case round =>
                  clear H'
                  try clear c1
                  try clear c2
                  try clear p2
                  try clear c3
                  try clear c4
                  try clear p4
                  try clear q4
                  try clear hx4
                  try clear qi4
                  try clear c5
                  try clear c6
                  try clear c6b0
                  try clear c6b1
                  try clear c8
                  try clear c15
                  try clear c16
                  try clear c16b0
                  try clear c16b1
                  try clear c20
                  try clear c22
                  try clear c22b0
                  try clear c22b1
                  try clear c23
                  try clear c23b0
                  try clear c23b1
                  try clear c23b2
                  try clear c24
                  try clear c26
                  try clear c28
                  try clear c30
                  try clear c32
                  try clear c33
                  try clear hcz10_0
                  try clear hcz10_1
                  try clear hcz12_0
                  try clear hcz12_1
                  try clear hcz13_0
                  try clear hcz13_1
                  try clear hcz18_0
                  try clear hcz18_1
                  try clear hcz21_0
                  try clear hcz21_1
                  try clear hcz21_2
                  try clear hcz21_3
                  try clear hcz21_4
                  try clear hcz21_5
                  try clear hcz21_6
                  try clear hcz21_7
                  try clear hcz25_0
                  try clear hcz25_1
                  try clear hcz25_2
                  try clear hcz25_3
                  try clear hcz25_4
                  try clear hcz25_5
                  try clear hcz25_6
                  try clear hcz25_7
                  try clear hcz27_0
                  try clear hcz27_1
                  try clear hcz27_2
                  try clear hcz27_3
                  try clear hcz27_4
                  try clear hcz27_5
                  try clear hcz27_6
                  try clear hcz27_7
                  try clear hcz29_0
                  try clear hcz29_1
                  try clear hcz29_2
                  try clear hcz29_3
                  try clear hcz29_4
                  try clear hcz29_5
                  try clear hcz29_6
                  try clear hcz29_7
                  try clear hcz34_0
                  try clear hcz34_1
                  try clear hcz7_0
                  try clear hcz7_1
                  try clear hcz9_0
                  try clear hcz9_1
                  try clear hfz10_0
                  try clear hfz10_1
                  try clear hfz12_0
                  try clear hfz12_1
                  try clear hfz13_0
                  try clear hfz13_1
                  try clear hfz18_0
                  try clear hfz18_1
                  try clear hfz21_0
                  try clear hfz21_1
                  try clear hfz21_2
                  try clear hfz21_3
                  try clear hfz21_4
                  try clear hfz21_5
                  try clear hfz21_6
                  try clear hfz21_7
                  try clear hfz25_0
                  try clear hfz25_1
                  try clear hfz25_2
                  try clear hfz25_3
                  try clear hfz25_4
                  try clear hfz25_5
                  try clear hfz25_6
                  try clear hfz25_7
                  try clear hfz27_0
                  try clear hfz27_1
                  try clear hfz27_2
                  try clear hfz27_3
                  try clear hfz27_4
                  try clear hfz27_5
                  try clear hfz27_6
                  try clear hfz27_7
                  try clear hfz29_0
                  try clear hfz29_1
                  try clear hfz29_2
                  try clear hfz29_3
                  try clear hfz29_4
                  try clear hfz29_5
                  try clear hfz29_6
                  try clear hfz29_7
                  try clear hfz34_0
                  try clear hfz34_1
                  try clear hfz7_0
                  try clear hfz7_1
                  try clear hfz9_0
                  try clear hfz9_1
                  try clear hx403_0
                  try clear hx403_1
                  try clear hx403_2
                  try clear hx403_3
                  try clear hx403_4
                  try clear hx403_5
                  try clear hx403_6
                  try clear hx403_7
                  try clear p2
                  try clear p4
                  try clear p403
                  try clear q4
                  try clear q403
                  obtain ⟨x45_3, rfl, HA, HK3, BK401, BK404, BK405, HB⟩ := hrel
                  cases gk with
                  | zero => exact absurd HA.out (by simp [impl_UnitOk.l0])
                  | succ k3 =>
                    have H := HA.out
                    clear HA
                    simp only [impl_UnitOk.l0] at H
                    by_cases c35 : x45_3 < (l0_1.length : Int)
                    · rw [if_pos c35] at H
                      have c35b0 : decide (x45_3 < (l0_1.length : Int)) = true := decide_eq_true c35
                      clear c35
                      by_cases c36 : 0 ≤ x45_3
                      · rw [if_pos c36] at H
                        have c36b0 : decide (0 ≤ x45_3) = true := decide_eq_true c36
                        clear c36
                        by_cases c37 : x45_3 < (l0_1.length : Int)
                        · rw [if_pos c37] at H
                          have c37b0 : decide (x45_3 < (l0_1.length : Int)) = true := decide_eq_true c37
                          clear c37
                          replace H := Option.bind_eq_some_iff.mp H
                          obtain ⟨t409, A380, H⟩ := H
                          replace H : (if t409 = true then ((impl_codeOk.f k3 l0_0 l0_1 ((rd_T46 l0_1 x45_3).f0) ((rd_T46 l0_1 x45_3).f1) ((rd_T46 l0_1 x45_3).f2) ((rd_T46 l0_1 x45_3).f3) ((rd_T46 l0_1 x45_3).f4) ((rd_T46 l0_1 x45_3).f5) ((rd_T46 l0_1 x45_3).f6) ((rd_T46 l0_1 x45_3).f7) 0).bind fun t410 => (if t410 = true then ((impl_catchesOk.f k3 l0_0 l0_1 ((rd_T46 l0_1 x45_3).f0) ((rd_T46 l0_1 x45_3).f1) ((rd_T46 l0_1 x45_3).f2) ((rd_T46 l0_1 x45_3).f3) ((rd_T46 l0_1 x45_3).f4) ((rd_T46 l0_1 x45_3).f5) ((rd_T46 l0_1 x45_3).f6) ((rd_T46 l0_1 x45_3).f7)).bind fun t411 => (if t411 = true then (impl_UnitOk.l0 k3 l0_1 (l0_1.length : Int) (wrap64 (x45_3 + 1)) l0_0 l0_1) else (some false))) else (some false))) else (some false)) = some r := H
                          have A38 := Aside0.mk A380
                          clear A380
                          by_cases c39 : t409 = true
                          · subst c39
                            have H1 : ((impl_codeOk.f k3 l0_0 l0_1 ((rd_T46 l0_1 x45_3).f0) ((rd_T46 l0_1 x45_3).f1) ((rd_T46 l0_1 x45_3).f2) ((rd_T46 l0_1 x45_3).f3) ((rd_T46 l0_1 x45_3).f4) ((rd_T46 l0_1 x45_3).f5) ((rd_T46 l0_1 x45_3).f6) ((rd_T46 l0_1 x45_3).f7) 0).bind fun t410 => (if t410 = true then ((impl_catchesOk.f k3 l0_0 l0_1 ((rd_T46 l0_1 x45_3).f0) ((rd_T46 l0_1 x45_3).f1) ((rd_T46 l0_1 x45_3).f2) ((rd_T46 l0_1 x45_3).f3) ((rd_T46 l0_1 x45_3).f4) ((rd_T46 l0_1 x45_3).f5) ((rd_T46 l0_1 x45_3).f6) ((rd_T46 l0_1 x45_3).f7)).bind fun t411 => (if t411 = true then (impl_UnitOk.l0 k3 l0_1 (l0_1.length : Int) (wrap64 (x45_3 + 1)) l0_0 l0_1) else (some false))) else (some false))) = some r := by rw [if_pos rfl] at H; exact H
                            clear H
                            have H := H1
                            clear H1
                            replace H := Option.bind_eq_some_iff.mp H
                            obtain ⟨t410, A400, H⟩ := H
                            replace H : (if t410 = true then ((impl_catchesOk.f k3 l0_0 l0_1 ((rd_T46 l0_1 x45_3).f0) ((rd_T46 l0_1 x45_3).f1) ((rd_T46 l0_1 x45_3).f2) ((rd_T46 l0_1 x45_3).f3) ((rd_T46 l0_1 x45_3).f4) ((rd_T46 l0_1 x45_3).f5) ((rd_T46 l0_1 x45_3).f6) ((rd_T46 l0_1 x45_3).f7)).bind fun t411 => (if t411 = true then (impl_UnitOk.l0 k3 l0_1 (l0_1.length : Int) (wrap64 (x45_3 + 1)) l0_0 l0_1) else (some false))) else (some false)) = some r := H
                            have A40 := Aside0.mk A400
                            clear A400
                            by_cases c41 : t410 = true
                            · subst c41
                              have H1 : ((impl_catchesOk.f k3 l0_0 l0_1 ((rd_T46 l0_1 x45_3).f0) ((rd_T46 l0_1 x45_3).f1) ((rd_T46 l0_1 x45_3).f2) ((rd_T46 l0_1 x45_3).f3) ((rd_T46 l0_1 x45_3).f4) ((rd_T46 l0_1 x45_3).f5) ((rd_T46 l0_1 x45_3).f6) ((rd_T46 l0_1 x45_3).f7)).bind fun t411 => (if t411 = true then (impl_UnitOk.l0 k3 l0_1 (l0_1.length : Int) (wrap64 (x45_3 + 1)) l0_0 l0_1) else (some false))) = some r := by rw [if_pos rfl] at H; exact H
                              clear H
                              have H := H1
                              clear H1
                              replace H := Option.bind_eq_some_iff.mp H
                              obtain ⟨t411, A420, H⟩ := H
                              replace H : (if t411 = true then (impl_UnitOk.l0 k3 l0_1 (l0_1.length : Int) (wrap64 (x45_3 + 1)) l0_0 l0_1) else (some false)) = some r := H
                              have A42 := Aside0.mk A420
                              clear A420
                              by_cases c43 : t411 = true
                              · subst c43
                                have H1 : (impl_UnitOk.l0 k3 l0_1 (l0_1.length : Int) (wrap64 (x45_3 + 1)) l0_0 l0_1) = some r := by rw [if_pos rfl] at H; exact H
                                clear H
                                have H := H1
                                clear H1
                                have H' := Aside0.mk H
                                clear H
                                have p407 : 0 ≤ (x45_3 : Int) := of_decide_eq_true (by first | (with_reducible assumption) | assumption)
                                have q407 : x45_3 < (l0_1.length : Int) := of_decide_eq_true (by first | (with_reducible assumption) | assumption)
                                obtain ⟨ad407, A407_2, c407_2, A407_5, c407_5, A407_6, c407_6, A407_7, c407_7, e407, hx407_0, hx407_1, hx407_2, hx407_3, hx407_4, hx407_5, hx407_6, hx407_7, hl407_2, hi407_2, hl407_5, hi407_5, hl407_6, hi407_6, hl407_7, hi407_7⟩ := at_T46 HR0_1.out x45_3 p407 q407
                                obtain rfl : ad403 = ad407 := (by injection e407)
                                replace hx407_0 := (HB.out.cell (World.block_lt_of_cell? w _ hx407_0)).trans hx407_0
                                replace hx407_1 := (HB.out.cell (World.block_lt_of_cell? w _ hx407_1)).trans hx407_1
                                replace hx407_2 := (HB.out.cell (World.block_lt_of_cell? w _ hx407_2)).trans hx407_2
                                replace hx407_3 := (HB.out.cell (World.block_lt_of_cell? w _ hx407_3)).trans hx407_3
                                replace hx407_4 := (HB.out.cell (World.block_lt_of_cell? w _ hx407_4)).trans hx407_4
                                replace hx407_5 := (HB.out.cell (World.block_lt_of_cell? w _ hx407_5)).trans hx407_5
                                replace hx407_6 := (HB.out.cell (World.block_lt_of_cell? w _ hx407_6)).trans hx407_6
                                replace hx407_7 := (HB.out.cell (World.block_lt_of_cell? w _ hx407_7)).trans hx407_7
                                have HR407_2 := Aside0.mk hi407_2
                                have HC407_2 := Aside0.mk hl407_2
                                clear hi407_2 hl407_2
                                have HR407_5 := Aside0.mk hi407_5
                                have HC407_5 := Aside0.mk hl407_5
                                clear hi407_5 hl407_5
                                have HR407_6 := Aside0.mk hi407_6
                                have HC407_6 := Aside0.mk hl407_6
                                clear hi407_6 hl407_6
                                have HR407_7 := Aside0.mk hi407_7
                                have HC407_7 := Aside0.mk hl407_7
                                clear hi407_7 hl407_7
                                replace p407 := eq_true p407
                                replace q407 := eq_true q407
                                go_wp2_with (first | ((with_reducible refine gate_dst (N := 6) rfl ?_); (try (refine gate_guard (by rfl) ?_; dsimp only)); refine box_event ?hg (N := 6) ?hd (cs := #[.int .i64 0, .int .i64 0, .slice none 0 0, .int .i64 0, .int .i64 0, .slice none 0 0, .slice none 0 0, .slice none 0 0]) (t := 46) ?hr ?_; (case hd => rfl); (case hg => rfl); (case hr => first | (go_simp; done) | (go_simp; rfl)); intro gb408 hg w44 hbox hb; have n0_ := Aside0.mk (blk_below (g := gb401) (o := .cells #[.slice A0_0 l0_0.length c0_0, .slice (some ad403) l0_1.length c0_1] 31 (0, 0)) (by (with_reducible repeat (first | refine blk_drewN ?_ _ | refine blk_drew ?_ | refine blk_alloc ?_ _)); exact BK401.out) hb); have n1_ := Aside0.mk (blk_below (g := gb404) (o := .cells #[.int .i64 ((rd_T46 l0_1 0).f0), .int .i64 ((rd_T46 l0_1 0).f1), .slice A403_2 ((rd_T46 l0_1 0).f2).length c403_2, .int .i64 ((rd_T46 l0_1 0).f3), .int .i64 ((rd_T46 l0_1 0).f4), .slice A403_5 ((rd_T46 l0_1 0).f5).length c403_5, .slice A403_6 ((rd_T46 l0_1 0).f6).length c403_6, .slice A403_7 ((rd_T46 l0_1 0).f7).length c403_7] 46 (0, 0)) (by (with_reducible repeat (first | refine blk_drewN ?_ _ | refine blk_drew ?_ | refine blk_alloc ?_ _)); exact BK404.out) hb); have n2_ := Aside0.mk (blk_below (g := gb405) (o := wantsO) (by (with_reducible repeat (first | refine blk_drewN ?_ _ | refine blk_drew ?_ | refine blk_alloc ?_ _)); exact BK405.out) hb); have n3_ := Aside0.mk (below_step (by repeat (first | (with_reducible first | exact HB.out | apply below_alloc | apply pw_below_drewN | apply below_drew1 | refine below_set ?_ GE401.out | refine below_set ?_ GE404.out | refine below_set ?_ GE405.out) | exact HB.out)) hb); have n4_ := Aside0.mk (hbox); have n5_ := Aside0.mk ((by rw [hg]; exact (below_size (by repeat (first | (with_reducible first | exact HB.out | apply below_alloc | apply pw_below_drewN | apply below_drew1 | refine below_set ?_ GE401.out | refine below_set ?_ GE404.out | refine below_set ?_ GE405.out) | exact HB.out))) : w.heap.size ≤ gb408)); have n6_ := Aside0.mk ((by rw [hg]; exact (below_size (by repeat (first | (with_reducible first | exact HB.out | apply below_alloc | apply pw_below_drewN | apply below_drew1 | refine below_set ?_ GE401.out | refine below_set ?_ GE404.out | refine below_set ?_ GE405.out) | exact HB.out))) : w.heap.size ≤ gb408)); have n7_ := Aside0.mk ((by rw [hg]; exact Nat.ne_of_lt (blk_lt (g := gb401) (o := .cells #[.slice A0_0 l0_0.length c0_0, .slice (some ad403) l0_1.length c0_1] 31 (0, 0)) (by (with_reducible repeat (first | refine blk_drewN ?_ _ | refine blk_drew ?_ | refine blk_alloc ?_ _)); exact BK401.out)) : gb401 ≠ gb408)); have n8_ := Aside0.mk ((by rw [hg]; exact Nat.ne_of_gt (blk_lt (g := gb401) (o := .cells #[.slice A0_0 l0_0.length c0_0, .slice (some ad403) l0_1.length c0_1] 31 (0, 0)) (by (with_reducible repeat (first | refine blk_drewN ?_ _ | refine blk_drew ?_ | refine blk_alloc ?_ _)); exact BK401.out)) : gb408 ≠ gb401)); have n9_ := Aside0.mk ((by rw [hg]; exact Nat.ne_of_lt (blk_lt (g := gb404) (o := .cells #[.int .i64 ((rd_T46 l0_1 0).f0), .int .i64 ((rd_T46 l0_1 0).f1), .slice A403_2 ((rd_T46 l0_1 0).f2).length c403_2, .int .i64 ((rd_T46 l0_1 0).f3), .int .i64 ((rd_T46 l0_1 0).f4), .slice A403_5 ((rd_T46 l0_1 0).f5).length c403_5, .slice A403_6 ((rd_T46 l0_1 0).f6).length c403_6, .slice A403_7 ((rd_T46 l0_1 0).f7).length c403_7] 46 (0, 0)) (by (with_reducible repeat (first | refine blk_drewN ?_ _ | refine blk_drew ?_ | refine blk_alloc ?_ _)); exact BK404.out)) : gb404 ≠ gb408)); have n10_ := Aside0.mk ((by rw [hg]; exact Nat.ne_of_gt (blk_lt (g := gb404) (o := .cells #[.int .i64 ((rd_T46 l0_1 0).f0), .int .i64 ((rd_T46 l0_1 0).f1), .slice A403_2 ((rd_T46 l0_1 0).f2).length c403_2, .int .i64 ((rd_T46 l0_1 0).f3), .int .i64 ((rd_T46 l0_1 0).f4), .slice A403_5 ((rd_T46 l0_1 0).f5).length c403_5, .slice A403_6 ((rd_T46 l0_1 0).f6).length c403_6, .slice A403_7 ((rd_T46 l0_1 0).f7).length c403_7] 46 (0, 0)) (by (with_reducible repeat (first | refine blk_drewN ?_ _ | refine blk_drew ?_ | refine blk_alloc ?_ _)); exact BK404.out)) : gb408 ≠ gb404)); have n11_ := Aside0.mk ((by rw [hg]; exact Nat.ne_of_lt (blk_lt (g := gb405) (o := wantsO) (by (with_reducible repeat (first | refine blk_drewN ?_ _ | refine blk_drew ?_ | refine blk_alloc ?_ _)); exact BK405.out)) : gb405 ≠ gb408)); have n12_ := Aside0.mk ((by rw [hg]; exact Nat.ne_of_gt (blk_lt (g := gb405) (o := wantsO) (by (with_reducible repeat (first | refine blk_drewN ?_ _ | refine blk_drew ?_ | refine blk_alloc ?_ _)); exact BK405.out)) : gb408 ≠ gb405)); clear BK401; clear BK404; clear BK405; clear HB; have BK401 := n0_; have BK404 := n1_; have BK405 := n2_; have HB := n3_; have BK408 := n4_; have GW408 := n5_; have GE408 := n6_; have NB401_408 := n7_; have NB408_401 := n8_; have NB404_408 := n9_; have NB408_404 := n10_; have NB405_408 := n11_; have NB408_405 := n12_; clear n0_ n1_ n2_ n3_ n4_ n5_ n6_ n7_ n8_ n9_ n10_ n11_ n12_; clear hb hbox hg; have hnb45 := NB408_401.out; have hnc45 := NB401_408.out; have hnb46 := NB408_404.out; have hnc46 := NB404_408.out; have hnb47 := NB408_405.out; have hnc47 := NB405_408.out; have hcz48_0 : w44.cell? ⟨gb408, 0, none⟩ = some (.int .i64 0) := (blk_cell BK408.out 0).trans rfl; have hcz48_1 : w44.cell? ⟨gb408, 1, none⟩ = some (.int .i64 0) := (blk_cell BK408.out 1).trans rfl; have hcz48_2 : w44.cell? ⟨gb408, 2, none⟩ = some (.slice none 0 0) := (blk_cell BK408.out 2).trans rfl; have hcz48_3 : w44.cell? ⟨gb408, 3, none⟩ = some (.int .i64 0) := (blk_cell BK408.out 3).trans rfl; have hcz48_4 : w44.cell? ⟨gb408, 4, none⟩ = some (.int .i64 0) := (blk_cell BK408.out 4).trans rfl; have hcz48_5 : w44.cell? ⟨gb408, 5, none⟩ = some (.slice none 0 0) := (blk_cell BK408.out 5).trans rfl; have hcz48_6 : w44.cell? ⟨gb408, 6, none⟩ = some (.slice none 0 0) := (blk_cell BK408.out 6).trans rfl; have hcz48_7 : w44.cell? ⟨gb408, 7, none⟩ = some (.slice none 0 0) := (blk_cell BK408.out 7).trans rfl; have hfz48_0 := blk_frozen BK408.out 0; have hfz48_1 := blk_frozen BK408.out 1; have hfz48_2 := blk_frozen BK408.out 2; have hfz48_3 := blk_frozen BK408.out 3; have hfz48_4 := blk_frozen BK408.out 4; have hfz48_5 := blk_frozen BK408.out 5; have hfz48_6 := blk_frozen BK408.out 6; have hfz48_7 := blk_frozen BK408.out 7; have hnb49 := NB401_404.out; have hnc49 := NB404_401.out; have hnb50 := NB401_405.out; have hnc50 := NB405_401.out; have hcz51_0 : w44.cell? ⟨gb401, 0, none⟩ = some (.slice A0_0 l0_0.length c0_0) := (blk_cell BK401.out 0).trans rfl; have hcz51_1 : w44.cell? ⟨gb401, 1, none⟩ = some (.slice (some ad403) l0_1.length c0_1) := (blk_cell BK401.out 1).trans rfl; have hfz51_0 := blk_frozen BK401.out 0; have hfz51_1 := blk_frozen BK401.out 1) | ((with_reducible refine gate_callee (f := 22) rfl ?_); refine goesL_ (some 51) rfl rfl Try.func22 (by kernel_rfl) rfl #[.agg #[.slice A0_0 l0_0.length c0_0, .slice (some ad403) l0_1.length c0_1], .agg #[.int .i64 ((rd_T46 l0_1 x45_3).f0), .int .i64 ((rd_T46 l0_1 x45_3).f1), .slice A407_2 ((rd_T46 l0_1 x45_3).f2).length c407_2, .int .i64 ((rd_T46 l0_1 x45_3).f3), .int .i64 ((rd_T46 l0_1 x45_3).f4), .slice A407_5 ((rd_T46 l0_1 x45_3).f5).length c407_5, .slice A407_6 ((rd_T46 l0_1 x45_3).f6).length c407_6, .slice A407_7 ((rd_T46 l0_1 x45_3).f7).length c407_7]] rfl (by (try simp only [List.map_toArray, List.map_cons, List.map_nil]); first | done | rfl | (simp only [List.length_drop, List.length_take]; rfl)) ?_; (with_reducible refine (impl_headOk.calls k3 _ _ l0_0 _ _ l0_1 ((rd_T46 l0_1 x45_3).f0) ((rd_T46 l0_1 x45_3).f1) _ _ ((rd_T46 l0_1 x45_3).f2) ((rd_T46 l0_1 x45_3).f3) ((rd_T46 l0_1 x45_3).f4) _ _ ((rd_T46 l0_1 x45_3).f5) _ _ ((rd_T46 l0_1 x45_3).f6) _ _ ((rd_T46 l0_1 x45_3).f7) true _ ?side1 ?side2 ?side3 ?side4 ?side5 ?side6 ?side7 ?side8 ?side9 ?side10 ?side11 ?side12 A38.out).mono ?_); (case side1 => exact Kd.C_below HR0_0.out (by repeat (first | (with_reducible first | exact HB.out | apply below_alloc | apply pw_below_drewN | apply below_drew1 | refine below_set ?_ GE401.out | refine below_set ?_ GE404.out | refine below_set ?_ GE405.out | refine below_set ?_ GE408.out) | exact HB.out))); (case side2 => exact HC0_0.out); (case side3 => exact Kd.C_below HR0_1.out (by repeat (first | (with_reducible first | exact HB.out | apply below_alloc | apply pw_below_drewN | apply below_drew1 | refine below_set ?_ GE401.out | refine below_set ?_ GE404.out | refine below_set ?_ GE405.out | refine below_set ?_ GE408.out) | exact HB.out))); (case side4 => exact HC0_1.out); (case side5 => exact Kd.C_below HR407_2.out (by repeat (first | (with_reducible first | exact HB.out | apply below_alloc | apply pw_below_drewN | apply below_drew1 | refine below_set ?_ GE401.out | refine below_set ?_ GE404.out | refine below_set ?_ GE405.out | refine below_set ?_ GE408.out) | exact HB.out))); (case side6 => exact HC407_2.out); (case side7 => exact Kd.C_below HR407_5.out (by repeat (first | (with_reducible first | exact HB.out | apply below_alloc | apply pw_below_drewN | apply below_drew1 | refine below_set ?_ GE401.out | refine below_set ?_ GE404.out | refine below_set ?_ GE405.out | refine below_set ?_ GE408.out) | exact HB.out))); (case side8 => exact HC407_5.out); (case side9 => exact Kd.C_below HR407_6.out (by repeat (first | (with_reducible first | exact HB.out | apply below_alloc | apply pw_below_drewN | apply below_drew1 | refine below_set ?_ GE401.out | refine below_set ?_ GE404.out | refine below_set ?_ GE405.out | refine below_set ?_ GE408.out) | exact HB.out))); (case side10 => exact HC407_6.out); (case side11 => exact Kd.C_below HR407_7.out (by repeat (first | (with_reducible first | exact HB.out | apply below_alloc | apply pw_below_drewN | apply below_drew1 | refine below_set ?_ GE401.out | refine below_set ?_ GE404.out | refine below_set ?_ GE405.out | refine below_set ?_ GE408.out) | exact HB.out))); (case side12 => exact HC407_7.out); rintro e w52 ⟨rfl, hb⟩; refine ⟨_, rfl, ?_⟩; have n0_ := Aside0.mk (blk_below (g := gb401) (o := .cells #[.slice A0_0 l0_0.length c0_0, .slice (some ad403) l0_1.length c0_1] 31 (0, 0)) (by (with_reducible repeat (first | refine blk_drewN ?_ _ | refine blk_drew ?_ | refine blk_alloc ?_ _)); refine blk_far ?_ NB401_408.out _; (with_reducible repeat (first | refine blk_drewN ?_ _ | refine blk_drew ?_ | refine blk_alloc ?_ _)); refine blk_far ?_ NB401_408.out _; (with_reducible repeat (first | refine blk_drewN ?_ _ | refine blk_drew ?_ | refine blk_alloc ?_ _)); refine blk_far ?_ NB401_408.out _; (with_reducible repeat (first | refine blk_drewN ?_ _ | refine blk_drew ?_ | refine blk_alloc ?_ _)); refine blk_far ?_ NB401_408.out _; (with_reducible repeat (first | refine blk_drewN ?_ _ | refine blk_drew ?_ | refine blk_alloc ?_ _)); refine blk_far ?_ NB401_408.out _; (with_reducible repeat (first | refine blk_drewN ?_ _ | refine blk_drew ?_ | refine blk_alloc ?_ _)); refine blk_far ?_ NB401_408.out _; (with_reducible repeat (first | refine blk_drewN ?_ _ | refine blk_drew ?_ | refine blk_alloc ?_ _)); refine blk_far ?_ NB401_408.out _; (with_reducible repeat (first | refine blk_drewN ?_ _ | refine blk_drew ?_ | refine blk_alloc ?_ _)); refine blk_far ?_ NB401_408.out _; (with_reducible repeat (first | refine blk_drewN ?_ _ | refine blk_drew ?_ | refine blk_alloc ?_ _)); exact BK401.out) hb); have n1_ := Aside0.mk (blk_below (g := gb404) (o := .cells #[.int .i64 ((rd_T46 l0_1 0).f0), .int .i64 ((rd_T46 l0_1 0).f1), .slice A403_2 ((rd_T46 l0_1 0).f2).length c403_2, .int .i64 ((rd_T46 l0_1 0).f3), .int .i64 ((rd_T46 l0_1 0).f4), .slice A403_5 ((rd_T46 l0_1 0).f5).length c403_5, .slice A403_6 ((rd_T46 l0_1 0).f6).length c403_6, .slice A403_7 ((rd_T46 l0_1 0).f7).length c403_7] 46 (0, 0)) (by (with_reducible repeat (first | refine blk_drewN ?_ _ | refine blk_drew ?_ | refine blk_alloc ?_ _)); refine blk_far ?_ NB404_408.out _; (with_reducible repeat (first | refine blk_drewN ?_ _ | refine blk_drew ?_ | refine blk_alloc ?_ _)); refine blk_far ?_ NB404_408.out _; (with_reducible repeat (first | refine blk_drewN ?_ _ | refine blk_drew ?_ | refine blk_alloc ?_ _)); refine blk_far ?_ NB404_408.out _; (with_reducible repeat (first | refine blk_drewN ?_ _ | refine blk_drew ?_ | refine blk_alloc ?_ _)); refine blk_far ?_ NB404_408.out _; (with_reducible repeat (first | refine blk_drewN ?_ _ | refine blk_drew ?_ | refine blk_alloc ?_ _)); refine blk_far ?_ NB404_408.out _; (with_reducible repeat (first | refine blk_drewN ?_ _ | refine blk_drew ?_ | refine blk_alloc ?_ _)); refine blk_far ?_ NB404_408.out _; (with_reducible repeat (first | refine blk_drewN ?_ _ | refine blk_drew ?_ | refine blk_alloc ?_ _)); refine blk_far ?_ NB404_408.out _; (with_reducible repeat (first | refine blk_drewN ?_ _ | refine blk_drew ?_ | refine blk_alloc ?_ _)); refine blk_far ?_ NB404_408.out _; (with_reducible repeat (first | refine blk_drewN ?_ _ | refine blk_drew ?_ | refine blk_alloc ?_ _)); exact BK404.out) hb); have n2_ := Aside0.mk (blk_below (g := gb405) (o := wantsO) (by (with_reducible repeat (first | refine blk_drewN ?_ _ | refine blk_drew ?_ | refine blk_alloc ?_ _)); refine obj_far ?_ NB405_408.out _; (with_reducible repeat (first | refine blk_drewN ?_ _ | refine blk_drew ?_ | refine blk_alloc ?_ _)); refine obj_far ?_ NB405_408.out _; (with_reducible repeat (first | refine blk_drewN ?_ _ | refine blk_drew ?_ | refine blk_alloc ?_ _)); refine obj_far ?_ NB405_408.out _; (with_reducible repeat (first | refine blk_drewN ?_ _ | refine blk_drew ?_ | refine blk_alloc ?_ _)); refine obj_far ?_ NB405_408.out _; (with_reducible repeat (first | refine blk_drewN ?_ _ | refine blk_drew ?_ | refine blk_alloc ?_ _)); refine obj_far ?_ NB405_408.out _; (with_reducible repeat (first | refine blk_drewN ?_ _ | refine blk_drew ?_ | refine blk_alloc ?_ _)); refine obj_far ?_ NB405_408.out _; (with_reducible repeat (first | refine blk_drewN ?_ _ | refine blk_drew ?_ | refine blk_alloc ?_ _)); refine obj_far ?_ NB405_408.out _; (with_reducible repeat (first | refine blk_drewN ?_ _ | refine blk_drew ?_ | refine blk_alloc ?_ _)); refine obj_far ?_ NB405_408.out _; (with_reducible repeat (first | refine blk_drewN ?_ _ | refine blk_drew ?_ | refine blk_alloc ?_ _)); exact BK405.out) hb); have n3_ := Aside0.mk (blk_below (g := gb408) (o := .cells #[.int .i64 ((rd_T46 l0_1 x45_3).f0), .int .i64 ((rd_T46 l0_1 x45_3).f1), .slice A407_2 ((rd_T46 l0_1 x45_3).f2).length c407_2, .int .i64 ((rd_T46 l0_1 x45_3).f3), .int .i64 ((rd_T46 l0_1 x45_3).f4), .slice A407_5 ((rd_T46 l0_1 x45_3).f5).length c407_5, .slice A407_6 ((rd_T46 l0_1 x45_3).f6).length c407_6, .slice A407_7 ((rd_T46 l0_1 x45_3).f7).length c407_7] 46 (0, 0)) (by (with_reducible repeat (first | refine blk_drewN ?_ _ | refine blk_drew ?_ | refine blk_alloc ?_ _)); refine blk_put (cs := #[.int .i64 ((rd_T46 l0_1 x45_3).f0), .int .i64 ((rd_T46 l0_1 x45_3).f1), .slice A407_2 ((rd_T46 l0_1 x45_3).f2).length c407_2, .int .i64 ((rd_T46 l0_1 x45_3).f3), .int .i64 ((rd_T46 l0_1 x45_3).f4), .slice A407_5 ((rd_T46 l0_1 x45_3).f5).length c407_5, .slice A407_6 ((rd_T46 l0_1 x45_3).f6).length c407_6, .slice none 0 0]) ?_ 7 _ rfl; (with_reducible repeat (first | refine blk_drewN ?_ _ | refine blk_drew ?_ | refine blk_alloc ?_ _)); refine blk_put (cs := #[.int .i64 ((rd_T46 l0_1 x45_3).f0), .int .i64 ((rd_T46 l0_1 x45_3).f1), .slice A407_2 ((rd_T46 l0_1 x45_3).f2).length c407_2, .int .i64 ((rd_T46 l0_1 x45_3).f3), .int .i64 ((rd_T46 l0_1 x45_3).f4), .slice A407_5 ((rd_T46 l0_1 x45_3).f5).length c407_5, .slice none 0 0, .slice none 0 0]) ?_ 6 _ rfl; (with_reducible repeat (first | refine blk_drewN ?_ _ | refine blk_drew ?_ | refine blk_alloc ?_ _)); refine blk_put (cs := #[.int .i64 ((rd_T46 l0_1 x45_3).f0), .int .i64 ((rd_T46 l0_1 x45_3).f1), .slice A407_2 ((rd_T46 l0_1 x45_3).f2).length c407_2, .int .i64 ((rd_T46 l0_1 x45_3).f3), .int .i64 ((rd_T46 l0_1 x45_3).f4), .slice none 0 0, .slice none 0 0, .slice none 0 0]) ?_ 5 _ rfl; (with_reducible repeat (first | refine blk_drewN ?_ _ | refine blk_drew ?_ | refine blk_alloc ?_ _)); refine blk_put (cs := #[.int .i64 ((rd_T46 l0_1 x45_3).f0), .int .i64 ((rd_T46 l0_1 x45_3).f1), .slice A407_2 ((rd_T46 l0_1 x45_3).f2).length c407_2, .int .i64 ((rd_T46 l0_1 x45_3).f3), .int .i64 0, .slice none 0 0, .slice none 0 0, .slice none 0 0]) ?_ 4 _ rfl; (with_reducible repeat (first | refine blk_drewN ?_ _ | refine blk_drew ?_ | refine blk_alloc ?_ _)); refine blk_put (cs := #[.int .i64 ((rd_T46 l0_1 x45_3).f0), .int .i64 ((rd_T46 l0_1 x45_3).f1), .slice A407_2 ((rd_T46 l0_1 x45_3).f2).length c407_2, .int .i64 0, .int .i64 0, .slice none 0 0, .slice none 0 0, .slice none 0 0]) ?_ 3 _ rfl; (with_reducible repeat (first | refine blk_drewN ?_ _ | refine blk_drew ?_ | refine blk_alloc ?_ _)); refine blk_put (cs := #[.int .i64 ((rd_T46 l0_1 x45_3).f0), .int .i64 ((rd_T46 l0_1 x45_3).f1), .slice none 0 0, .int .i64 0, .int .i64 0, .slice none 0 0, .slice none 0 0, .slice none 0 0]) ?_ 2 _ rfl; (with_reducible repeat (first | refine blk_drewN ?_ _ | refine blk_drew ?_ | refine blk_alloc ?_ _)); refine blk_put (cs := #[.int .i64 ((rd_T46 l0_1 x45_3).f0), .int .i64 0, .slice none 0 0, .int .i64 0, .int .i64 0, .slice none 0 0, .slice none 0 0, .slice none 0 0]) ?_ 1 _ rfl; (with_reducible repeat (first | refine blk_drewN ?_ _ | refine blk_drew ?_ | refine blk_alloc ?_ _)); refine blk_put (cs := #[.int .i64 0, .int .i64 0, .slice none 0 0, .int .i64 0, .int .i64 0, .slice none 0 0, .slice none 0 0, .slice none 0 0]) ?_ 0 _ rfl; (with_reducible repeat (first | refine blk_drewN ?_ _ | refine blk_drew ?_ | refine blk_alloc ?_ _)); exact BK408.out) hb); have n4_ := Aside0.mk (below_step (by repeat (first | (with_reducible first | exact HB.out | apply below_alloc | apply pw_below_drewN | apply below_drew1 | refine below_set ?_ GE401.out | refine below_set ?_ GE404.out | refine below_set ?_ GE405.out | refine below_set ?_ GE408.out) | exact HB.out)) hb); clear BK401; clear BK404; clear BK405; clear BK408; clear HB; have BK401 := n0_; have BK404 := n1_; have BK405 := n2_; have BK408 := n3_; have HB := n4_; clear n0_ n1_ n2_ n3_ n4_; (try clear hb); (try clear hb2); (try clear hk); (try clear hi); have hcz53_0 : w52.cell? ⟨gb401, 0, none⟩ = some (.slice A0_0 l0_0.length c0_0) := (blk_cell BK401.out 0).trans rfl; have hcz53_1 : w52.cell? ⟨gb401, 1, none⟩ = some (.slice (some ad403) l0_1.length c0_1) := (blk_cell BK401.out 1).trans rfl; have hfz53_0 := blk_frozen BK401.out 0; have hfz53_1 := blk_frozen BK401.out 1; have hcz54_0 : w52.cell? ⟨gb408, 0, none⟩ = some (.int .i64 ((rd_T46 l0_1 x45_3).f0)) := (blk_cell BK408.out 0).trans rfl; have hcz54_1 : w52.cell? ⟨gb408, 1, none⟩ = some (.int .i64 ((rd_T46 l0_1 x45_3).f1)) := (blk_cell BK408.out 1).trans rfl; have hcz54_2 : w52.cell? ⟨gb408, 2, none⟩ = some (.slice A407_2 ((rd_T46 l0_1 x45_3).f2).length c407_2) := (blk_cell BK408.out 2).trans rfl; have hcz54_3 : w52.cell? ⟨gb408, 3, none⟩ = some (.int .i64 ((rd_T46 l0_1 x45_3).f3)) := (blk_cell BK408.out 3).trans rfl; have hcz54_4 : w52.cell? ⟨gb408, 4, none⟩ = some (.int .i64 ((rd_T46 l0_1 x45_3).f4)) := (blk_cell BK408.out 4).trans rfl; have hcz54_5 : w52.cell? ⟨gb408, 5, none⟩ = some (.slice A407_5 ((rd_T46 l0_1 x45_3).f5).length c407_5) := (blk_cell BK408.out 5).trans rfl; have hcz54_6 : w52.cell? ⟨gb408, 6, none⟩ = some (.slice A407_6 ((rd_T46 l0_1 x45_3).f6).length c407_6) := (blk_cell BK408.out 6).trans rfl; have hcz54_7 : w52.cell? ⟨gb408, 7, none⟩ = some (.slice A407_7 ((rd_T46 l0_1 x45_3).f7).length c407_7) := (blk_cell BK408.out 7).trans rfl; have hfz54_0 := blk_frozen BK408.out 0; have hfz54_1 := blk_frozen BK408.out 1; have hfz54_2 := blk_frozen BK408.out 2; have hfz54_3 := blk_frozen BK408.out 3; have hfz54_4 := blk_frozen BK408.out 4; have hfz54_5 := blk_frozen BK408.out 5; have hfz54_6 := blk_frozen BK408.out 6; have hfz54_7 := blk_frozen BK408.out 7) | (go_at_call 23; (with_reducible refine (impl_codeOk.calls k3 _ _ l0_0 _ _ l0_1 ((rd_T46 l0_1 x45_3).f0) ((rd_T46 l0_1 x45_3).f1) _ _ ((rd_T46 l0_1 x45_3).f2) ((rd_T46 l0_1 x45_3).f3) ((rd_T46 l0_1 x45_3).f4) _ _ ((rd_T46 l0_1 x45_3).f5) _ _ ((rd_T46 l0_1 x45_3).f6) _ _ ((rd_T46 l0_1 x45_3).f7) 0 true _ ?side1 ?side2 ?side3 ?side4 ?side5 ?side6 ?side7 ?side8 ?side9 ?side10 ?side11 ?side12 ?sideM A40.out).mono ?_); (case sideM => (with_reducible repeat (first | refine blk_drewN ?_ _ | refine blk_drew ?_ | refine blk_alloc ?_ _)); exact BK405.out); (case side1 => repeat (first | exact (Kd.C_below HR0_0.out HB.out) | (with_reducible refine Kd.C_alloc ?_ _) | (with_reducible refine Kd.C_drewN ?_ _) | (with_reducible refine Kd.C_drew ?_))); (case side2 => exact HC0_0.out); (case side3 => repeat (first | exact (Kd.C_below HR0_1.out HB.out) | (with_reducible refine Kd.C_alloc ?_ _) | (with_reducible refine Kd.C_drewN ?_ _) | (with_reducible refine Kd.C_drew ?_))); (case side4 => exact HC0_1.out); (case side5 => repeat (first | exact (Kd.C_below HR407_2.out HB.out) | (with_reducible refine Kd.C_alloc ?_ _) | (with_reducible refine Kd.C_drewN ?_ _) | (with_reducible refine Kd.C_drew ?_))); (case side6 => exact HC407_2.out); (case side7 => repeat (first | exact (Kd.C_below HR407_5.out HB.out) | (with_reducible refine Kd.C_alloc ?_ _) | (with_reducible refine Kd.C_drewN ?_ _) | (with_reducible refine Kd.C_drew ?_))); (case side8 => exact HC407_5.out); (case side9 => repeat (first | exact (Kd.C_below HR407_6.out HB.out) | (with_reducible refine Kd.C_alloc ?_ _) | (with_reducible refine Kd.C_drewN ?_ _) | (with_reducible refine Kd.C_drew ?_))); (case side10 => exact HC407_6.out); (case side11 => repeat (first | exact (Kd.C_below HR407_7.out HB.out) | (with_reducible refine Kd.C_alloc ?_ _) | (with_reducible refine Kd.C_drewN ?_ _) | (with_reducible refine Kd.C_drew ?_))); (case side12 => exact HC407_7.out); rintro e w55 ⟨rfl, hb⟩; have n0_ := Aside0.mk (blk_below (g := gb401) (o := .cells #[.slice A0_0 l0_0.length c0_0, .slice (some ad403) l0_1.length c0_1] 31 (0, 0)) (by (with_reducible repeat (first | refine blk_drewN ?_ _ | refine blk_drew ?_ | refine blk_alloc ?_ _)); exact BK401.out) hb); have n1_ := Aside0.mk (blk_below (g := gb404) (o := .cells #[.int .i64 ((rd_T46 l0_1 0).f0), .int .i64 ((rd_T46 l0_1 0).f1), .slice A403_2 ((rd_T46 l0_1 0).f2).length c403_2, .int .i64 ((rd_T46 l0_1 0).f3), .int .i64 ((rd_T46 l0_1 0).f4), .slice A403_5 ((rd_T46 l0_1 0).f5).length c403_5, .slice A403_6 ((rd_T46 l0_1 0).f6).length c403_6, .slice A403_7 ((rd_T46 l0_1 0).f7).length c403_7] 46 (0, 0)) (by (with_reducible repeat (first | refine blk_drewN ?_ _ | refine blk_drew ?_ | refine blk_alloc ?_ _)); exact BK404.out) hb); have n2_ := Aside0.mk (blk_below (g := gb405) (o := wantsO) (by (with_reducible repeat (first | refine blk_drewN ?_ _ | refine blk_drew ?_ | refine blk_alloc ?_ _)); exact BK405.out) hb); have n3_ := Aside0.mk (blk_below (g := gb408) (o := .cells #[.int .i64 ((rd_T46 l0_1 x45_3).f0), .int .i64 ((rd_T46 l0_1 x45_3).f1), .slice A407_2 ((rd_T46 l0_1 x45_3).f2).length c407_2, .int .i64 ((rd_T46 l0_1 x45_3).f3), .int .i64 ((rd_T46 l0_1 x45_3).f4), .slice A407_5 ((rd_T46 l0_1 x45_3).f5).length c407_5, .slice A407_6 ((rd_T46 l0_1 x45_3).f6).length c407_6, .slice A407_7 ((rd_T46 l0_1 x45_3).f7).length c407_7] 46 (0, 0)) (by (with_reducible repeat (first | refine blk_drewN ?_ _ | refine blk_drew ?_ | refine blk_alloc ?_ _)); exact BK408.out) hb); have n4_ := Aside0.mk (below_step (by repeat (first | (with_reducible first | exact HB.out | apply below_alloc | apply pw_below_drewN | apply below_drew1 | refine below_set ?_ GE401.out | refine below_set ?_ GE404.out | refine below_set ?_ GE405.out | refine below_set ?_ GE408.out) | exact HB.out)) hb); clear BK401; clear BK404; clear BK405; clear BK408; clear HB; have BK401 := n0_; have BK404 := n1_; have BK405 := n2_; have BK408 := n3_; have HB := n4_; clear n0_ n1_ n2_ n3_ n4_; (try clear hb); (try clear hb2); (try clear hk); (try clear hi); have hcz56_0 : w55.cell? ⟨gb401, 0, none⟩ = some (.slice A0_0 l0_0.length c0_0) := (blk_cell BK401.out 0).trans rfl; have hcz56_1 : w55.cell? ⟨gb401, 1, none⟩ = some (.slice (some ad403) l0_1.length c0_1) := (blk_cell BK401.out 1).trans rfl; have hfz56_0 := blk_frozen BK401.out 0; have hfz56_1 := blk_frozen BK401.out 1; have hcz57_0 : w55.cell? ⟨gb408, 0, none⟩ = some (.int .i64 ((rd_T46 l0_1 x45_3).f0)) := (blk_cell BK408.out 0).trans rfl; have hcz57_1 : w55.cell? ⟨gb408, 1, none⟩ = some (.int .i64 ((rd_T46 l0_1 x45_3).f1)) := (blk_cell BK408.out 1).trans rfl; have hcz57_2 : w55.cell? ⟨gb408, 2, none⟩ = some (.slice A407_2 ((rd_T46 l0_1 x45_3).f2).length c407_2) := (blk_cell BK408.out 2).trans rfl; have hcz57_3 : w55.cell? ⟨gb408, 3, none⟩ = some (.int .i64 ((rd_T46 l0_1 x45_3).f3)) := (blk_cell BK408.out 3).trans rfl; have hcz57_4 : w55.cell? ⟨gb408, 4, none⟩ = some (.int .i64 ((rd_T46 l0_1 x45_3).f4)) := (blk_cell BK408.out 4).trans rfl; have hcz57_5 : w55.cell? ⟨gb408, 5, none⟩ = some (.slice A407_5 ((rd_T46 l0_1 x45_3).f5).length c407_5) := (blk_cell BK408.out 5).trans rfl; have hcz57_6 : w55.cell? ⟨gb408, 6, none⟩ = some (.slice A407_6 ((rd_T46 l0_1 x45_3).f6).length c407_6) := (blk_cell BK408.out 6).trans rfl; have hcz57_7 : w55.cell? ⟨gb408, 7, none⟩ = some (.slice A407_7 ((rd_T46 l0_1 x45_3).f7).length c407_7) := (blk_cell BK408.out 7).trans rfl; have hfz57_0 := blk_frozen BK408.out 0; have hfz57_1 := blk_frozen BK408.out 1; have hfz57_2 := blk_frozen BK408.out 2; have hfz57_3 := blk_frozen BK408.out 3; have hfz57_4 := blk_frozen BK408.out 4; have hfz57_5 := blk_frozen BK408.out 5; have hfz57_6 := blk_frozen BK408.out 6; have hfz57_7 := blk_frozen BK408.out 7) | (go_at_call 24; (with_reducible refine (impl_catchesOk.calls k3 _ _ l0_0 _ _ l0_1 ((rd_T46 l0_1 x45_3).f0) ((rd_T46 l0_1 x45_3).f1) _ _ ((rd_T46 l0_1 x45_3).f2) ((rd_T46 l0_1 x45_3).f3) ((rd_T46 l0_1 x45_3).f4) _ _ ((rd_T46 l0_1 x45_3).f5) _ _ ((rd_T46 l0_1 x45_3).f6) _ _ ((rd_T46 l0_1 x45_3).f7) true _ ?side1 ?side2 ?side3 ?side4 ?side5 ?side6 ?side7 ?side8 ?side9 ?side10 ?side11 ?side12 A42.out).mono ?_); (case side1 => repeat (first | exact (Kd.C_below HR0_0.out HB.out) | (with_reducible refine Kd.C_alloc ?_ _) | (with_reducible refine Kd.C_drewN ?_ _) | (with_reducible refine Kd.C_drew ?_))); (case side2 => exact HC0_0.out); (case side3 => repeat (first | exact (Kd.C_below HR0_1.out HB.out) | (with_reducible refine Kd.C_alloc ?_ _) | (with_reducible refine Kd.C_drewN ?_ _) | (with_reducible refine Kd.C_drew ?_))); (case side4 => exact HC0_1.out); (case side5 => repeat (first | exact (Kd.C_below HR407_2.out HB.out) | (with_reducible refine Kd.C_alloc ?_ _) | (with_reducible refine Kd.C_drewN ?_ _) | (with_reducible refine Kd.C_drew ?_))); (case side6 => exact HC407_2.out); (case side7 => repeat (first | exact (Kd.C_below HR407_5.out HB.out) | (with_reducible refine Kd.C_alloc ?_ _) | (with_reducible refine Kd.C_drewN ?_ _) | (with_reducible refine Kd.C_drew ?_))); (case side8 => exact HC407_5.out); (case side9 => repeat (first | exact (Kd.C_below HR407_6.out HB.out) | (with_reducible refine Kd.C_alloc ?_ _) | (with_reducible refine Kd.C_drewN ?_ _) | (with_reducible refine Kd.C_drew ?_))); (case side10 => exact HC407_6.out); (case side11 => repeat (first | exact (Kd.C_below HR407_7.out HB.out) | (with_reducible refine Kd.C_alloc ?_ _) | (with_reducible refine Kd.C_drewN ?_ _) | (with_reducible refine Kd.C_drew ?_))); (case side12 => exact HC407_7.out); rintro e w58 ⟨rfl, hb⟩; have n0_ := Aside0.mk (blk_below (g := gb401) (o := .cells #[.slice A0_0 l0_0.length c0_0, .slice (some ad403) l0_1.length c0_1] 31 (0, 0)) (by (with_reducible repeat (first | refine blk_drewN ?_ _ | refine blk_drew ?_ | refine blk_alloc ?_ _)); exact BK401.out) hb); have n1_ := Aside0.mk (blk_below (g := gb404) (o := .cells #[.int .i64 ((rd_T46 l0_1 0).f0), .int .i64 ((rd_T46 l0_1 0).f1), .slice A403_2 ((rd_T46 l0_1 0).f2).length c403_2, .int .i64 ((rd_T46 l0_1 0).f3), .int .i64 ((rd_T46 l0_1 0).f4), .slice A403_5 ((rd_T46 l0_1 0).f5).length c403_5, .slice A403_6 ((rd_T46 l0_1 0).f6).length c403_6, .slice A403_7 ((rd_T46 l0_1 0).f7).length c403_7] 46 (0, 0)) (by (with_reducible repeat (first | refine blk_drewN ?_ _ | refine blk_drew ?_ | refine blk_alloc ?_ _)); exact BK404.out) hb); have n2_ := Aside0.mk (blk_below (g := gb405) (o := wantsO) (by (with_reducible repeat (first | refine blk_drewN ?_ _ | refine blk_drew ?_ | refine blk_alloc ?_ _)); exact BK405.out) hb); have n3_ := Aside0.mk (blk_below (g := gb408) (o := .cells #[.int .i64 ((rd_T46 l0_1 x45_3).f0), .int .i64 ((rd_T46 l0_1 x45_3).f1), .slice A407_2 ((rd_T46 l0_1 x45_3).f2).length c407_2, .int .i64 ((rd_T46 l0_1 x45_3).f3), .int .i64 ((rd_T46 l0_1 x45_3).f4), .slice A407_5 ((rd_T46 l0_1 x45_3).f5).length c407_5, .slice A407_6 ((rd_T46 l0_1 x45_3).f6).length c407_6, .slice A407_7 ((rd_T46 l0_1 x45_3).f7).length c407_7] 46 (0, 0)) (by (with_reducible repeat (first | refine blk_drewN ?_ _ | refine blk_drew ?_ | refine blk_alloc ?_ _)); exact BK408.out) hb); have n4_ := Aside0.mk (below_step (by repeat (first | (with_reducible first | exact HB.out | apply below_alloc | apply pw_below_drewN | apply below_drew1 | refine below_set ?_ GE401.out | refine below_set ?_ GE404.out | refine below_set ?_ GE405.out | refine below_set ?_ GE408.out) | exact HB.out)) hb); clear BK401; clear BK404; clear BK405; clear BK408; clear HB; have BK401 := n0_; have BK404 := n1_; have BK405 := n2_; have BK408 := n3_; have HB := n4_; clear n0_ n1_ n2_ n3_ n4_; (try clear hb); (try clear hb2); (try clear hk); (try clear hi)))
                                go_roundg k3
                                case measure => have := HJ1.out; have := HJ16.out; have := HK3.out; omega
                                case rel => exact ⟨(wrap64 (x45_3 + 1)), (by first | rfl | (simp; done) | (simp [*]; done)), H', ⟨by have := HJ1.out; have := HJ16.out; have := HK3.out; omega⟩, ⟨by (with_reducible repeat (first | refine blk_drewN ?_ _ | refine blk_drew ?_ | refine blk_alloc ?_ _)); exact BK401.out⟩, ⟨by (with_reducible repeat (first | refine blk_drewN ?_ _ | refine blk_drew ?_ | refine blk_alloc ?_ _)); exact BK404.out⟩, ⟨by (with_reducible repeat (first | refine blk_drewN ?_ _ | refine blk_drew ?_ | refine blk_alloc ?_ _)); exact BK405.out⟩, ⟨by repeat (first | (with_reducible first | exact HB.out | apply below_alloc | apply pw_below_drewN | apply below_drew1 | refine below_set ?_ GE401.out | refine below_set ?_ GE404.out | refine below_set ?_ GE405.out | refine below_set ?_ GE408.out) | exact HB.out)⟩⟩
                              · replace c43 := Bool.eq_false_iff.mpr c43
                                subst c43
                                have H1 : (some false) = some r := by rw [if_neg (show ¬ (false = true) by decide)] at H; exact H
                                clear H
                                have H := H1
                                clear H1
                                obtain rfl := Option.some.inj H
                                simp only [Option.some.injEq, Prod.mk.injEq] at H
                                obtain ⟨rfl⟩ := H
                                have p407 : 0 ≤ (x45_3 : Int) := of_decide_eq_true (by first | (with_reducible assumption) | assumption)
                                have q407 : x45_3 < (l0_1.length : Int) := of_decide_eq_true (by first | (with_reducible assumption) | assumption)
                                obtain ⟨ad407, A407_2, c407_2, A407_5, c407_5, A407_6, c407_6, A407_7, c407_7, e407, hx407_0, hx407_1, hx407_2, hx407_3, hx407_4, hx407_5, hx407_6, hx407_7, hl407_2, hi407_2, hl407_5, hi407_5, hl407_6, hi407_6, hl407_7, hi407_7⟩ := at_T46 HR0_1.out x45_3 p407 q407
                                obtain rfl : ad403 = ad407 := (by injection e407)
                                replace hx407_0 := (HB.out.cell (World.block_lt_of_cell? w _ hx407_0)).trans hx407_0
                                replace hx407_1 := (HB.out.cell (World.block_lt_of_cell? w _ hx407_1)).trans hx407_1
                                replace hx407_2 := (HB.out.cell (World.block_lt_of_cell? w _ hx407_2)).trans hx407_2
                                replace hx407_3 := (HB.out.cell (World.block_lt_of_cell? w _ hx407_3)).trans hx407_3
                                replace hx407_4 := (HB.out.cell (World.block_lt_of_cell? w _ hx407_4)).trans hx407_4
                                replace hx407_5 := (HB.out.cell (World.block_lt_of_cell? w _ hx407_5)).trans hx407_5
                                replace hx407_6 := (HB.out.cell (World.block_lt_of_cell? w _ hx407_6)).trans hx407_6
                                replace hx407_7 := (HB.out.cell (World.block_lt_of_cell? w _ hx407_7)).trans hx407_7
                                have HR407_2 := Aside0.mk hi407_2
                                have HC407_2 := Aside0.mk hl407_2
                                clear hi407_2 hl407_2
                                have HR407_5 := Aside0.mk hi407_5
                                have HC407_5 := Aside0.mk hl407_5
                                clear hi407_5 hl407_5
                                have HR407_6 := Aside0.mk hi407_6
                                have HC407_6 := Aside0.mk hl407_6
                                clear hi407_6 hl407_6
                                have HR407_7 := Aside0.mk hi407_7
                                have HC407_7 := Aside0.mk hl407_7
                                clear hi407_7 hl407_7
                                replace p407 := eq_true p407
                                replace q407 := eq_true q407
                                go_wp2_with (first | ((with_reducible refine gate_dst (N := 6) rfl ?_); (try (refine gate_guard (by rfl) ?_; dsimp only)); refine box_event ?hg (N := 6) ?hd (cs := #[.int .i64 0, .int .i64 0, .slice none 0 0, .int .i64 0, .int .i64 0, .slice none 0 0, .slice none 0 0, .slice none 0 0]) (t := 46) ?hr ?_; (case hd => rfl); (case hg => rfl); (case hr => first | (go_simp; done) | (go_simp; rfl)); intro gb408 hg w59 hbox hb; have n0_ := Aside0.mk (blk_below (g := gb401) (o := .cells #[.slice A0_0 l0_0.length c0_0, .slice (some ad403) l0_1.length c0_1] 31 (0, 0)) (by (with_reducible repeat (first | refine blk_drewN ?_ _ | refine blk_drew ?_ | refine blk_alloc ?_ _)); exact BK401.out) hb); have n1_ := Aside0.mk (blk_below (g := gb404) (o := .cells #[.int .i64 ((rd_T46 l0_1 0).f0), .int .i64 ((rd_T46 l0_1 0).f1), .slice A403_2 ((rd_T46 l0_1 0).f2).length c403_2, .int .i64 ((rd_T46 l0_1 0).f3), .int .i64 ((rd_T46 l0_1 0).f4), .slice A403_5 ((rd_T46 l0_1 0).f5).length c403_5, .slice A403_6 ((rd_T46 l0_1 0).f6).length c403_6, .slice A403_7 ((rd_T46 l0_1 0).f7).length c403_7] 46 (0, 0)) (by (with_reducible repeat (first | refine blk_drewN ?_ _ | refine blk_drew ?_ | refine blk_alloc ?_ _)); exact BK404.out) hb); have n2_ := Aside0.mk (blk_below (g := gb405) (o := wantsO) (by (with_reducible repeat (first | refine blk_drewN ?_ _ | refine blk_drew ?_ | refine blk_alloc ?_ _)); exact BK405.out) hb); have n3_ := Aside0.mk (below_step (by repeat (first | (with_reducible first | exact HB.out | apply below_alloc | apply pw_below_drewN | apply below_drew1 | refine below_set ?_ GE401.out | refine below_set ?_ GE404.out | refine below_set ?_ GE405.out) | exact HB.out)) hb); have n4_ := Aside0.mk (hbox); have n5_ := Aside0.mk ((by rw [hg]; exact (below_size (by repeat (first | (with_reducible first | exact HB.out | apply below_alloc | apply pw_below_drewN | apply below_drew1 | refine below_set ?_ GE401.out | refine below_set ?_ GE404.out | refine below_set ?_ GE405.out) | exact HB.out))) : w.heap.size ≤ gb408)); have n6_ := Aside0.mk ((by rw [hg]; exact (below_size (by repeat (first | (with_reducible first | exact HB.out | apply below_alloc | apply pw_below_drewN | apply below_drew1 | refine below_set ?_ GE401.out | refine below_set ?_ GE404.out | refine below_set ?_ GE405.out) | exact HB.out))) : w.heap.size ≤ gb408)); have n7_ := Aside0.mk ((by rw [hg]; exact Nat.ne_of_lt (blk_lt (g := gb401) (o := .cells #[.slice A0_0 l0_0.length c0_0, .slice (some ad403) l0_1.length c0_1] 31 (0, 0)) (by (with_reducible repeat (first | refine blk_drewN ?_ _ | refine blk_drew ?_ | refine blk_alloc ?_ _)); exact BK401.out)) : gb401 ≠ gb408)); have n8_ := Aside0.mk ((by rw [hg]; exact Nat.ne_of_gt (blk_lt (g := gb401) (o := .cells #[.slice A0_0 l0_0.length c0_0, .slice (some ad403) l0_1.length c0_1] 31 (0, 0)) (by (with_reducible repeat (first | refine blk_drewN ?_ _ | refine blk_drew ?_ | refine blk_alloc ?_ _)); exact BK401.out)) : gb408 ≠ gb401)); have n9_ := Aside0.mk ((by rw [hg]; exact Nat.ne_of_lt (blk_lt (g := gb404) (o := .cells #[.int .i64 ((rd_T46 l0_1 0).f0), .int .i64 ((rd_T46 l0_1 0).f1), .slice A403_2 ((rd_T46 l0_1 0).f2).length c403_2, .int .i64 ((rd_T46 l0_1 0).f3), .int .i64 ((rd_T46 l0_1 0).f4), .slice A403_5 ((rd_T46 l0_1 0).f5).length c403_5, .slice A403_6 ((rd_T46 l0_1 0).f6).length c403_6, .slice A403_7 ((rd_T46 l0_1 0).f7).length c403_7] 46 (0, 0)) (by (with_reducible repeat (first | refine blk_drewN ?_ _ | refine blk_drew ?_ | refine blk_alloc ?_ _)); exact BK404.out)) : gb404 ≠ gb408)); have n10_ := Aside0.mk ((by rw [hg]; exact Nat.ne_of_gt (blk_lt (g := gb404) (o := .cells #[.int .i64 ((rd_T46 l0_1 0).f0), .int .i64 ((rd_T46 l0_1 0).f1), .slice A403_2 ((rd_T46 l0_1 0).f2).length c403_2, .int .i64 ((rd_T46 l0_1 0).f3), .int .i64 ((rd_T46 l0_1 0).f4), .slice A403_5 ((rd_T46 l0_1 0).f5).length c403_5, .slice A403_6 ((rd_T46 l0_1 0).f6).length c403_6, .slice A403_7 ((rd_T46 l0_1 0).f7).length c403_7] 46 (0, 0)) (by (with_reducible repeat (first | refine blk_drewN ?_ _ | refine blk_drew ?_ | refine blk_alloc ?_ _)); exact BK404.out)) : gb408 ≠ gb404)); have n11_ := Aside0.mk ((by rw [hg]; exact Nat.ne_of_lt (blk_lt (g := gb405) (o := wantsO) (by (with_reducible repeat (first | refine blk_drewN ?_ _ | refine blk_drew ?_ | refine blk_alloc ?_ _)); exact BK405.out)) : gb405 ≠ gb408)); have n12_ := Aside0.mk ((by rw [hg]; exact Nat.ne_of_gt (blk_lt (g := gb405) (o := wantsO) (by (with_reducible repeat (first | refine blk_drewN ?_ _ | refine blk_drew ?_ | refine blk_alloc ?_ _)); exact BK405.out)) : gb408 ≠ gb405)); clear BK401; clear BK404; clear BK405; clear HB; have BK401 := n0_; have BK404 := n1_; have BK405 := n2_; have HB := n3_; have BK408 := n4_; have GW408 := n5_; have GE408 := n6_; have NB401_408 := n7_; have NB408_401 := n8_; have NB404_408 := n9_; have NB408_404 := n10_; have NB405_408 := n11_; have NB408_405 := n12_; clear n0_ n1_ n2_ n3_ n4_ n5_ n6_ n7_ n8_ n9_ n10_ n11_ n12_; clear hb hbox hg; have hnb60 := NB408_401.out; have hnc60 := NB401_408.out; have hnb61 := NB408_404.out; have hnc61 := NB404_408.out; have hnb62 := NB408_405.out; have hnc62 := NB405_408.out; have hcz63_0 : w59.cell? ⟨gb408, 0, none⟩ = some (.int .i64 0) := (blk_cell BK408.out 0).trans rfl; have hcz63_1 : w59.cell? ⟨gb408, 1, none⟩ = some (.int .i64 0) := (blk_cell BK408.out 1).trans rfl; have hcz63_2 : w59.cell? ⟨gb408, 2, none⟩ = some (.slice none 0 0) := (blk_cell BK408.out 2).trans rfl; have hcz63_3 : w59.cell? ⟨gb408, 3, none⟩ = some (.int .i64 0) := (blk_cell BK408.out 3).trans rfl; have hcz63_4 : w59.cell? ⟨gb408, 4, none⟩ = some (.int .i64 0) := (blk_cell BK408.out 4).trans rfl; have hcz63_5 : w59.cell? ⟨gb408, 5, none⟩ = some (.slice none 0 0) := (blk_cell BK408.out 5).trans rfl; have hcz63_6 : w59.cell? ⟨gb408, 6, none⟩ = some (.slice none 0 0) := (blk_cell BK408.out 6).trans rfl; have hcz63_7 : w59.cell? ⟨gb408, 7, none⟩ = some (.slice none 0 0) := (blk_cell BK408.out 7).trans rfl; have hfz63_0 := blk_frozen BK408.out 0; have hfz63_1 := blk_frozen BK408.out 1; have hfz63_2 := blk_frozen BK408.out 2; have hfz63_3 := blk_frozen BK408.out 3; have hfz63_4 := blk_frozen BK408.out 4; have hfz63_5 := blk_frozen BK408.out 5; have hfz63_6 := blk_frozen BK408.out 6; have hfz63_7 := blk_frozen BK408.out 7; have hnb64 := NB401_404.out; have hnc64 := NB404_401.out; have hnb65 := NB401_405.out; have hnc65 := NB405_401.out; have hcz66_0 : w59.cell? ⟨gb401, 0, none⟩ = some (.slice A0_0 l0_0.length c0_0) := (blk_cell BK401.out 0).trans rfl; have hcz66_1 : w59.cell? ⟨gb401, 1, none⟩ = some (.slice (some ad403) l0_1.length c0_1) := (blk_cell BK401.out 1).trans rfl; have hfz66_0 := blk_frozen BK401.out 0; have hfz66_1 := blk_frozen BK401.out 1) | ((with_reducible refine gate_callee (f := 22) rfl ?_); refine goesL_ (some 51) rfl rfl Try.func22 (by kernel_rfl) rfl #[.agg #[.slice A0_0 l0_0.length c0_0, .slice (some ad403) l0_1.length c0_1], .agg #[.int .i64 ((rd_T46 l0_1 x45_3).f0), .int .i64 ((rd_T46 l0_1 x45_3).f1), .slice A407_2 ((rd_T46 l0_1 x45_3).f2).length c407_2, .int .i64 ((rd_T46 l0_1 x45_3).f3), .int .i64 ((rd_T46 l0_1 x45_3).f4), .slice A407_5 ((rd_T46 l0_1 x45_3).f5).length c407_5, .slice A407_6 ((rd_T46 l0_1 x45_3).f6).length c407_6, .slice A407_7 ((rd_T46 l0_1 x45_3).f7).length c407_7]] rfl (by (try simp only [List.map_toArray, List.map_cons, List.map_nil]); first | done | rfl | (simp only [List.length_drop, List.length_take]; rfl)) ?_; (with_reducible refine (impl_headOk.calls k3 _ _ l0_0 _ _ l0_1 ((rd_T46 l0_1 x45_3).f0) ((rd_T46 l0_1 x45_3).f1) _ _ ((rd_T46 l0_1 x45_3).f2) ((rd_T46 l0_1 x45_3).f3) ((rd_T46 l0_1 x45_3).f4) _ _ ((rd_T46 l0_1 x45_3).f5) _ _ ((rd_T46 l0_1 x45_3).f6) _ _ ((rd_T46 l0_1 x45_3).f7) true _ ?side1 ?side2 ?side3 ?side4 ?side5 ?side6 ?side7 ?side8 ?side9 ?side10 ?side11 ?side12 A38.out).mono ?_); (case side1 => exact Kd.C_below HR0_0.out (by repeat (first | (with_reducible first | exact HB.out | apply below_alloc | apply pw_below_drewN | apply below_drew1 | refine below_set ?_ GE401.out | refine below_set ?_ GE404.out | refine below_set ?_ GE405.out | refine below_set ?_ GE408.out) | exact HB.out))); (case side2 => exact HC0_0.out); (case side3 => exact Kd.C_below HR0_1.out (by repeat (first | (with_reducible first | exact HB.out | apply below_alloc | apply pw_below_drewN | apply below_drew1 | refine below_set ?_ GE401.out | refine below_set ?_ GE404.out | refine below_set ?_ GE405.out | refine below_set ?_ GE408.out) | exact HB.out))); (case side4 => exact HC0_1.out); (case side5 => exact Kd.C_below HR407_2.out (by repeat (first | (with_reducible first | exact HB.out | apply below_alloc | apply pw_below_drewN | apply below_drew1 | refine below_set ?_ GE401.out | refine below_set ?_ GE404.out | refine below_set ?_ GE405.out | refine below_set ?_ GE408.out) | exact HB.out))); (case side6 => exact HC407_2.out); (case side7 => exact Kd.C_below HR407_5.out (by repeat (first | (with_reducible first | exact HB.out | apply below_alloc | apply pw_below_drewN | apply below_drew1 | refine below_set ?_ GE401.out | refine below_set ?_ GE404.out | refine below_set ?_ GE405.out | refine below_set ?_ GE408.out) | exact HB.out))); (case side8 => exact HC407_5.out); (case side9 => exact Kd.C_below HR407_6.out (by repeat (first | (with_reducible first | exact HB.out | apply below_alloc | apply pw_below_drewN | apply below_drew1 | refine below_set ?_ GE401.out | refine below_set ?_ GE404.out | refine below_set ?_ GE405.out | refine below_set ?_ GE408.out) | exact HB.out))); (case side10 => exact HC407_6.out); (case side11 => exact Kd.C_below HR407_7.out (by repeat (first | (with_reducible first | exact HB.out | apply below_alloc | apply pw_below_drewN | apply below_drew1 | refine below_set ?_ GE401.out | refine below_set ?_ GE404.out | refine below_set ?_ GE405.out | refine below_set ?_ GE408.out) | exact HB.out))); (case side12 => exact HC407_7.out); rintro e w67 ⟨rfl, hb⟩; refine ⟨_, rfl, ?_⟩; have n0_ := Aside0.mk (blk_below (g := gb401) (o := .cells #[.slice A0_0 l0_0.length c0_0, .slice (some ad403) l0_1.length c0_1] 31 (0, 0)) (by (with_reducible repeat (first | refine blk_drewN ?_ _ | refine blk_drew ?_ | refine blk_alloc ?_ _)); refine blk_far ?_ NB401_408.out _; (with_reducible repeat (first | refine blk_drewN ?_ _ | refine blk_drew ?_ | refine blk_alloc ?_ _)); refine blk_far ?_ NB401_408.out _; (with_reducible repeat (first | refine blk_drewN ?_ _ | refine blk_drew ?_ | refine blk_alloc ?_ _)); refine blk_far ?_ NB401_408.out _; (with_reducible repeat (first | refine blk_drewN ?_ _ | refine blk_drew ?_ | refine blk_alloc ?_ _)); refine blk_far ?_ NB401_408.out _; (with_reducible repeat (first | refine blk_drewN ?_ _ | refine blk_drew ?_ | refine blk_alloc ?_ _)); refine blk_far ?_ NB401_408.out _; (with_reducible repeat (first | refine blk_drewN ?_ _ | refine blk_drew ?_ | refine blk_alloc ?_ _)); refine blk_far ?_ NB401_408.out _; (with_reducible repeat (first | refine blk_drewN ?_ _ | refine blk_drew ?_ | refine blk_alloc ?_ _)); refine blk_far ?_ NB401_408.out _; (with_reducible repeat (first | refine blk_drewN ?_ _ | refine blk_drew ?_ | refine blk_alloc ?_ _)); refine blk_far ?_ NB401_408.out _; (with_reducible repeat (first | refine blk_drewN ?_ _ | refine blk_drew ?_ | refine blk_alloc ?_ _)); exact BK401.out) hb); have n1_ := Aside0.mk (blk_below (g := gb404) (o := .cells #[.int .i64 ((rd_T46 l0_1 0).f0), .int .i64 ((rd_T46 l0_1 0).f1), .slice A403_2 ((rd_T46 l0_1 0).f2).length c403_2, .int .i64 ((rd_T46 l0_1 0).f3), .int .i64 ((rd_T46 l0_1 0).f4), .slice A403_5 ((rd_T46 l0_1 0).f5).length c403_5, .slice A403_6 ((rd_T46 l0_1 0).f6).length c403_6, .slice A403_7 ((rd_T46 l0_1 0).f7).length c403_7] 46 (0, 0)) (by (with_reducible repeat (first | refine blk_drewN ?_ _ | refine blk_drew ?_ | refine blk_alloc ?_ _)); refine blk_far ?_ NB404_408.out _; (with_reducible repeat (first | refine blk_drewN ?_ _ | refine blk_drew ?_ | refine blk_alloc ?_ _)); refine blk_far ?_ NB404_408.out _; (with_reducible repeat (first | refine blk_drewN ?_ _ | refine blk_drew ?_ | refine blk_alloc ?_ _)); refine blk_far ?_ NB404_408.out _; (with_reducible repeat (first | refine blk_drewN ?_ _ | refine blk_drew ?_ | refine blk_alloc ?_ _)); refine blk_far ?_ NB404_408.out _; (with_reducible repeat (first | refine blk_drewN ?_ _ | refine blk_drew ?_ | refine blk_alloc ?_ _)); refine blk_far ?_ NB404_408.out _; (with_reducible repeat (first | refine blk_drewN ?_ _ | refine blk_drew ?_ | refine blk_alloc ?_ _)); refine blk_far ?_ NB404_408.out _; (with_reducible repeat (first | refine blk_drewN ?_ _ | refine blk_drew ?_ | refine blk_alloc ?_ _)); refine blk_far ?_ NB404_408.out _; (with_reducible repeat (first | refine blk_drewN ?_ _ | refine blk_drew ?_ | refine blk_alloc ?_ _)); refine blk_far ?_ NB404_408.out _; (with_reducible repeat (first | refine blk_drewN ?_ _ | refine blk_drew ?_ | refine blk_alloc ?_ _)); exact BK404.out) hb); have n2_ := Aside0.mk (blk_below (g := gb405) (o := wantsO) (by (with_reducible repeat (first | refine blk_drewN ?_ _ | refine blk_drew ?_ | refine blk_alloc ?_ _)); refine obj_far ?_ NB405_408.out _; (with_reducible repeat (first | refine blk_drewN ?_ _ | refine blk_drew ?_ | refine blk_alloc ?_ _)); refine obj_far ?_ NB405_408.out _; (with_reducible repeat (first | refine blk_drewN ?_ _ | refine blk_drew ?_ | refine blk_alloc ?_ _)); refine obj_far ?_ NB405_408.out _; (with_reducible repeat (first | refine blk_drewN ?_ _ | refine blk_drew ?_ | refine blk_alloc ?_ _)); refine obj_far ?_ NB405_408.out _; (with_reducible repeat (first | refine blk_drewN ?_ _ | refine blk_drew ?_ | refine blk_alloc ?_ _)); refine obj_far ?_ NB405_408.out _; (with_reducible repeat (first | refine blk_drewN ?_ _ | refine blk_drew ?_ | refine blk_alloc ?_ _)); refine obj_far ?_ NB405_408.out _; (with_reducible repeat (first | refine blk_drewN ?_ _ | refine blk_drew ?_ | refine blk_alloc ?_ _)); refine obj_far ?_ NB405_408.out _; (with_reducible repeat (first | refine blk_drewN ?_ _ | refine blk_drew ?_ | refine blk_alloc ?_ _)); refine obj_far ?_ NB405_408.out _; (with_reducible repeat (first | refine blk_drewN ?_ _ | refine blk_drew ?_ | refine blk_alloc ?_ _)); exact BK405.out) hb); have n3_ := Aside0.mk (blk_below (g := gb408) (o := .cells #[.int .i64 ((rd_T46 l0_1 x45_3).f0), .int .i64 ((rd_T46 l0_1 x45_3).f1), .slice A407_2 ((rd_T46 l0_1 x45_3).f2).length c407_2, .int .i64 ((rd_T46 l0_1 x45_3).f3), .int .i64 ((rd_T46 l0_1 x45_3).f4), .slice A407_5 ((rd_T46 l0_1 x45_3).f5).length c407_5, .slice A407_6 ((rd_T46 l0_1 x45_3).f6).length c407_6, .slice A407_7 ((rd_T46 l0_1 x45_3).f7).length c407_7] 46 (0, 0)) (by (with_reducible repeat (first | refine blk_drewN ?_ _ | refine blk_drew ?_ | refine blk_alloc ?_ _)); refine blk_put (cs := #[.int .i64 ((rd_T46 l0_1 x45_3).f0), .int .i64 ((rd_T46 l0_1 x45_3).f1), .slice A407_2 ((rd_T46 l0_1 x45_3).f2).length c407_2, .int .i64 ((rd_T46 l0_1 x45_3).f3), .int .i64 ((rd_T46 l0_1 x45_3).f4), .slice A407_5 ((rd_T46 l0_1 x45_3).f5).length c407_5, .slice A407_6 ((rd_T46 l0_1 x45_3).f6).length c407_6, .slice none 0 0]) ?_ 7 _ rfl; (with_reducible repeat (first | refine blk_drewN ?_ _ | refine blk_drew ?_ | refine blk_alloc ?_ _)); refine blk_put (cs := #[.int .i64 ((rd_T46 l0_1 x45_3).f0), .int .i64 ((rd_T46 l0_1 x45_3).f1), .slice A407_2 ((rd_T46 l0_1 x45_3).f2).length c407_2, .int .i64 ((rd_T46 l0_1 x45_3).f3), .int .i64 ((rd_T46 l0_1 x45_3).f4), .slice A407_5 ((rd_T46 l0_1 x45_3).f5).length c407_5, .slice none 0 0, .slice none 0 0]) ?_ 6 _ rfl; (with_reducible repeat (first | refine blk_drewN ?_ _ | refine blk_drew ?_ | refine blk_alloc ?_ _)); refine blk_put (cs := #[.int .i64 ((rd_T46 l0_1 x45_3).f0), .int .i64 ((rd_T46 l0_1 x45_3).f1), .slice A407_2 ((rd_T46 l0_1 x45_3).f2).length c407_2, .int .i64 ((rd_T46 l0_1 x45_3).f3), .int .i64 ((rd_T46 l0_1 x45_3).f4), .slice none 0 0, .slice none 0 0, .slice none 0 0]) ?_ 5 _ rfl; (with_reducible repeat (first | refine blk_drewN ?_ _ | refine blk_drew ?_ | refine blk_alloc ?_ _)); refine blk_put (cs := #[.int .i64 ((rd_T46 l0_1 x45_3).f0), .int .i64 ((rd_T46 l0_1 x45_3).f1), .slice A407_2 ((rd_T46 l0_1 x45_3).f2).length c407_2, .int .i64 ((rd_T46 l0_1 x45_3).f3), .int .i64 0, .slice none 0 0, .slice none 0 0, .slice none 0 0]) ?_ 4 _ rfl; (with_reducible repeat (first | refine blk_drewN ?_ _ | refine blk_drew ?_ | refine blk_alloc ?_ _)); refine blk_put (cs := #[.int .i64 ((rd_T46 l0_1 x45_3).f0), .int .i64 ((rd_T46 l0_1 x45_3).f1), .slice A407_2 ((rd_T46 l0_1 x45_3).f2).length c407_2, .int .i64 0, .int .i64 0, .slice none 0 0, .slice none 0 0, .slice none 0 0]) ?_ 3 _ rfl; (with_reducible repeat (first | refine blk_drewN ?_ _ | refine blk_drew ?_ | refine blk_alloc ?_ _)); refine blk_put (cs := #[.int .i64 ((rd_T46 l0_1 x45_3).f0), .int .i64 ((rd_T46 l0_1 x45_3).f1), .slice none 0 0, .int .i64 0, .int .i64 0, .slice none 0 0, .slice none 0 0, .slice none 0 0]) ?_ 2 _ rfl; (with_reducible repeat (first | refine blk_drewN ?_ _ | refine blk_drew ?_ | refine blk_alloc ?_ _)); refine blk_put (cs := #[.int .i64 ((rd_T46 l0_1 x45_3).f0), .int .i64 0, .slice none 0 0, .int .i64 0, .int .i64 0, .slice none 0 0, .slice none 0 0, .slice none 0 0]) ?_ 1 _ rfl; (with_reducible repeat (first | refine blk_drewN ?_ _ | refine blk_drew ?_ | refine blk_alloc ?_ _)); refine blk_put (cs := #[.int .i64 0, .int .i64 0, .slice none 0 0, .int .i64 0, .int .i64 0, .slice none 0 0, .slice none 0 0, .slice none 0 0]) ?_ 0 _ rfl; (with_reducible repeat (first | refine blk_drewN ?_ _ | refine blk_drew ?_ | refine blk_alloc ?_ _)); exact BK408.out) hb); have n4_ := Aside0.mk (below_step (by repeat (first | (with_reducible first | exact HB.out | apply below_alloc | apply pw_below_drewN | apply below_drew1 | refine below_set ?_ GE401.out | refine below_set ?_ GE404.out | refine below_set ?_ GE405.out | refine below_set ?_ GE408.out) | exact HB.out)) hb); clear BK401; clear BK404; clear BK405; clear BK408; clear HB; have BK401 := n0_; have BK404 := n1_; have BK405 := n2_; have BK408 := n3_; have HB := n4_; clear n0_ n1_ n2_ n3_ n4_; (try clear hb); (try clear hb2); (try clear hk); (try clear hi); have hcz68_0 : w67.cell? ⟨gb401, 0, none⟩ = some (.slice A0_0 l0_0.length c0_0) := (blk_cell BK401.out 0).trans rfl; have hcz68_1 : w67.cell? ⟨gb401, 1, none⟩ = some (.slice (some ad403) l0_1.length c0_1) := (blk_cell BK401.out 1).trans rfl; have hfz68_0 := blk_frozen BK401.out 0; have hfz68_1 := blk_frozen BK401.out 1; have hcz69_0 : w67.cell? ⟨gb408, 0, none⟩ = some (.int .i64 ((rd_T46 l0_1 x45_3).f0)) := (blk_cell BK408.out 0).trans rfl; have hcz69_1 : w67.cell? ⟨gb408, 1, none⟩ = some (.int .i64 ((rd_T46 l0_1 x45_3).f1)) := (blk_cell BK408.out 1).trans rfl; have hcz69_2 : w67.cell? ⟨gb408, 2, none⟩ = some (.slice A407_2 ((rd_T46 l0_1 x45_3).f2).length c407_2) := (blk_cell BK408.out 2).trans rfl; have hcz69_3 : w67.cell? ⟨gb408, 3, none⟩ = some (.int .i64 ((rd_T46 l0_1 x45_3).f3)) := (blk_cell BK408.out 3).trans rfl; have hcz69_4 : w67.cell? ⟨gb408, 4, none⟩ = some (.int .i64 ((rd_T46 l0_1 x45_3).f4)) := (blk_cell BK408.out 4).trans rfl; have hcz69_5 : w67.cell? ⟨gb408, 5, none⟩ = some (.slice A407_5 ((rd_T46 l0_1 x45_3).f5).length c407_5) := (blk_cell BK408.out 5).trans rfl; have hcz69_6 : w67.cell? ⟨gb408, 6, none⟩ = some (.slice A407_6 ((rd_T46 l0_1 x45_3).f6).length c407_6) := (blk_cell BK408.out 6).trans rfl; have hcz69_7 : w67.cell? ⟨gb408, 7, none⟩ = some (.slice A407_7 ((rd_T46 l0_1 x45_3).f7).length c407_7) := (blk_cell BK408.out 7).trans rfl; have hfz69_0 := blk_frozen BK408.out 0; have hfz69_1 := blk_frozen BK408.out 1; have hfz69_2 := blk_frozen BK408.out 2; have hfz69_3 := blk_frozen BK408.out 3; have hfz69_4 := blk_frozen BK408.out 4; have hfz69_5 := blk_frozen BK408.out 5; have hfz69_6 := blk_frozen BK408.out 6; have hfz69_7 := blk_frozen BK408.out 7) | (go_at_call 23; (with_reducible refine (impl_codeOk.calls k3 _ _ l0_0 _ _ l0_1 ((rd_T46 l0_1 x45_3).f0) ((rd_T46 l0_1 x45_3).f1) _ _ ((rd_T46 l0_1 x45_3).f2) ((rd_T46 l0_1 x45_3).f3) ((rd_T46 l0_1 x45_3).f4) _ _ ((rd_T46 l0_1 x45_3).f5) _ _ ((rd_T46 l0_1 x45_3).f6) _ _ ((rd_T46 l0_1 x45_3).f7) 0 true _ ?side1 ?side2 ?side3 ?side4 ?side5 ?side6 ?side7 ?side8 ?side9 ?side10 ?side11 ?side12 ?sideM A40.out).mono ?_); (case sideM => (with_reducible repeat (first | refine blk_drewN ?_ _ | refine blk_drew ?_ | refine blk_alloc ?_ _)); exact BK405.out); (case side1 => repeat (first | exact (Kd.C_below HR0_0.out HB.out) | (with_reducible refine Kd.C_alloc ?_ _) | (with_reducible refine Kd.C_drewN ?_ _) | (with_reducible refine Kd.C_drew ?_))); (case side2 => exact HC0_0.out); (case side3 => repeat (first | exact (Kd.C_below HR0_1.out HB.out) | (with_reducible refine Kd.C_alloc ?_ _) | (with_reducible refine Kd.C_drewN ?_ _) | (with_reducible refine Kd.C_drew ?_))); (case side4 => exact HC0_1.out); (case side5 => repeat (first | exact (Kd.C_below HR407_2.out HB.out) | (with_reducible refine Kd.C_alloc ?_ _) | (with_reducible refine Kd.C_drewN ?_ _) | (with_reducible refine Kd.C_drew ?_))); (case side6 => exact HC407_2.out); (case side7 => repeat (first | exact (Kd.C_below HR407_5.out HB.out) | (with_reducible refine Kd.C_alloc ?_ _) | (with_reducible refine Kd.C_drewN ?_ _) | (with_reducible refine Kd.C_drew ?_))); (case side8 => exact HC407_5.out); (case side9 => repeat (first | exact (Kd.C_below HR407_6.out HB.out) | (with_reducible refine Kd.C_alloc ?_ _) | (with_reducible refine Kd.C_drewN ?_ _) | (with_reducible refine Kd.C_drew ?_))); (case side10 => exact HC407_6.out); (case side11 => repeat (first | exact (Kd.C_below HR407_7.out HB.out) | (with_reducible refine Kd.C_alloc ?_ _) | (with_reducible refine Kd.C_drewN ?_ _) | (with_reducible refine Kd.C_drew ?_))); (case side12 => exact HC407_7.out); rintro e w70 ⟨rfl, hb⟩; have n0_ := Aside0.mk (blk_below (g := gb401) (o := .cells #[.slice A0_0 l0_0.length c0_0, .slice (some ad403) l0_1.length c0_1] 31 (0, 0)) (by (with_reducible repeat (first | refine blk_drewN ?_ _ | refine blk_drew ?_ | refine blk_alloc ?_ _)); exact BK401.out) hb); have n1_ := Aside0.mk (blk_below (g := gb404) (o := .cells #[.int .i64 ((rd_T46 l0_1 0).f0), .int .i64 ((rd_T46 l0_1 0).f1), .slice A403_2 ((rd_T46 l0_1 0).f2).length c403_2, .int .i64 ((rd_T46 l0_1 0).f3), .int .i64 ((rd_T46 l0_1 0).f4), .slice A403_5 ((rd_T46 l0_1 0).f5).length c403_5, .slice A403_6 ((rd_T46 l0_1 0).f6).length c403_6, .slice A403_7 ((rd_T46 l0_1 0).f7).length c403_7] 46 (0, 0)) (by (with_reducible repeat (first | refine blk_drewN ?_ _ | refine blk_drew ?_ | refine blk_alloc ?_ _)); exact BK404.out) hb); have n2_ := Aside0.mk (blk_below (g := gb405) (o := wantsO) (by (with_reducible repeat (first | refine blk_drewN ?_ _ | refine blk_drew ?_ | refine blk_alloc ?_ _)); exact BK405.out) hb); have n3_ := Aside0.mk (blk_below (g := gb408) (o := .cells #[.int .i64 ((rd_T46 l0_1 x45_3).f0), .int .i64 ((rd_T46 l0_1 x45_3).f1), .slice A407_2 ((rd_T46 l0_1 x45_3).f2).length c407_2, .int .i64 ((rd_T46 l0_1 x45_3).f3), .int .i64 ((rd_T46 l0_1 x45_3).f4), .slice A407_5 ((rd_T46 l0_1 x45_3).f5).length c407_5, .slice A407_6 ((rd_T46 l0_1 x45_3).f6).length c407_6, .slice A407_7 ((rd_T46 l0_1 x45_3).f7).length c407_7] 46 (0, 0)) (by (with_reducible repeat (first | refine blk_drewN ?_ _ | refine blk_drew ?_ | refine blk_alloc ?_ _)); exact BK408.out) hb); have n4_ := Aside0.mk (below_step (by repeat (first | (with_reducible first | exact HB.out | apply below_alloc | apply pw_below_drewN | apply below_drew1 | refine below_set ?_ GE401.out | refine below_set ?_ GE404.out | refine below_set ?_ GE405.out | refine below_set ?_ GE408.out) | exact HB.out)) hb); clear BK401; clear BK404; clear BK405; clear BK408; clear HB; have BK401 := n0_; have BK404 := n1_; have BK405 := n2_; have BK408 := n3_; have HB := n4_; clear n0_ n1_ n2_ n3_ n4_; (try clear hb); (try clear hb2); (try clear hk); (try clear hi); have hcz71_0 : w70.cell? ⟨gb401, 0, none⟩ = some (.slice A0_0 l0_0.length c0_0) := (blk_cell BK401.out 0).trans rfl; have hcz71_1 : w70.cell? ⟨gb401, 1, none⟩ = some (.slice (some ad403) l0_1.length c0_1) := (blk_cell BK401.out 1).trans rfl; have hfz71_0 := blk_frozen BK401.out 0; have hfz71_1 := blk_frozen BK401.out 1; have hcz72_0 : w70.cell? ⟨gb408, 0, none⟩ = some (.int .i64 ((rd_T46 l0_1 x45_3).f0)) := (blk_cell BK408.out 0).trans rfl; have hcz72_1 : w70.cell? ⟨gb408, 1, none⟩ = some (.int .i64 ((rd_T46 l0_1 x45_3).f1)) := (blk_cell BK408.out 1).trans rfl; have hcz72_2 : w70.cell? ⟨gb408, 2, none⟩ = some (.slice A407_2 ((rd_T46 l0_1 x45_3).f2).length c407_2) := (blk_cell BK408.out 2).trans rfl; have hcz72_3 : w70.cell? ⟨gb408, 3, none⟩ = some (.int .i64 ((rd_T46 l0_1 x45_3).f3)) := (blk_cell BK408.out 3).trans rfl; have hcz72_4 : w70.cell? ⟨gb408, 4, none⟩ = some (.int .i64 ((rd_T46 l0_1 x45_3).f4)) := (blk_cell BK408.out 4).trans rfl; have hcz72_5 : w70.cell? ⟨gb408, 5, none⟩ = some (.slice A407_5 ((rd_T46 l0_1 x45_3).f5).length c407_5) := (blk_cell BK408.out 5).trans rfl; have hcz72_6 : w70.cell? ⟨gb408, 6, none⟩ = some (.slice A407_6 ((rd_T46 l0_1 x45_3).f6).length c407_6) := (blk_cell BK408.out 6).trans rfl; have hcz72_7 : w70.cell? ⟨gb408, 7, none⟩ = some (.slice A407_7 ((rd_T46 l0_1 x45_3).f7).length c407_7) := (blk_cell BK408.out 7).trans rfl; have hfz72_0 := blk_frozen BK408.out 0; have hfz72_1 := blk_frozen BK408.out 1; have hfz72_2 := blk_frozen BK408.out 2; have hfz72_3 := blk_frozen BK408.out 3; have hfz72_4 := blk_frozen BK408.out 4; have hfz72_5 := blk_frozen BK408.out 5; have hfz72_6 := blk_frozen BK408.out 6; have hfz72_7 := blk_frozen BK408.out 7) | (go_at_call 24; (with_reducible refine (impl_catchesOk.calls k3 _ _ l0_0 _ _ l0_1 ((rd_T46 l0_1 x45_3).f0) ((rd_T46 l0_1 x45_3).f1) _ _ ((rd_T46 l0_1 x45_3).f2) ((rd_T46 l0_1 x45_3).f3) ((rd_T46 l0_1 x45_3).f4) _ _ ((rd_T46 l0_1 x45_3).f5) _ _ ((rd_T46 l0_1 x45_3).f6) _ _ ((rd_T46 l0_1 x45_3).f7) false _ ?side1 ?side2 ?side3 ?side4 ?side5 ?side6 ?side7 ?side8 ?side9 ?side10 ?side11 ?side12 A42.out).mono ?_); (case side1 => repeat (first | exact (Kd.C_below HR0_0.out HB.out) | (with_reducible refine Kd.C_alloc ?_ _) | (with_reducible refine Kd.C_drewN ?_ _) | (with_reducible refine Kd.C_drew ?_))); (case side2 => exact HC0_0.out); (case side3 => repeat (first | exact (Kd.C_below HR0_1.out HB.out) | (with_reducible refine Kd.C_alloc ?_ _) | (with_reducible refine Kd.C_drewN ?_ _) | (with_reducible refine Kd.C_drew ?_))); (case side4 => exact HC0_1.out); (case side5 => repeat (first | exact (Kd.C_below HR407_2.out HB.out) | (with_reducible refine Kd.C_alloc ?_ _) | (with_reducible refine Kd.C_drewN ?_ _) | (with_reducible refine Kd.C_drew ?_))); (case side6 => exact HC407_2.out); (case side7 => repeat (first | exact (Kd.C_below HR407_5.out HB.out) | (with_reducible refine Kd.C_alloc ?_ _) | (with_reducible refine Kd.C_drewN ?_ _) | (with_reducible refine Kd.C_drew ?_))); (case side8 => exact HC407_5.out); (case side9 => repeat (first | exact (Kd.C_below HR407_6.out HB.out) | (with_reducible refine Kd.C_alloc ?_ _) | (with_reducible refine Kd.C_drewN ?_ _) | (with_reducible refine Kd.C_drew ?_))); (case side10 => exact HC407_6.out); (case side11 => repeat (first | exact (Kd.C_below HR407_7.out HB.out) | (with_reducible refine Kd.C_alloc ?_ _) | (with_reducible refine Kd.C_drewN ?_ _) | (with_reducible refine Kd.C_drew ?_))); (case side12 => exact HC407_7.out); rintro e w73 ⟨rfl, hb⟩; have n0_ := Aside0.mk (blk_below (g := gb401) (o := .cells #[.slice A0_0 l0_0.length c0_0, .slice (some ad403) l0_1.length c0_1] 31 (0, 0)) (by (with_reducible repeat (first | refine blk_drewN ?_ _ | refine blk_drew ?_ | refine blk_alloc ?_ _)); exact BK401.out) hb); have n1_ := Aside0.mk (blk_below (g := gb404) (o := .cells #[.int .i64 ((rd_T46 l0_1 0).f0), .int .i64 ((rd_T46 l0_1 0).f1), .slice A403_2 ((rd_T46 l0_1 0).f2).length c403_2, .int .i64 ((rd_T46 l0_1 0).f3), .int .i64 ((rd_T46 l0_1 0).f4), .slice A403_5 ((rd_T46 l0_1 0).f5).length c403_5, .slice A403_6 ((rd_T46 l0_1 0).f6).length c403_6, .slice A403_7 ((rd_T46 l0_1 0).f7).length c403_7] 46 (0, 0)) (by (with_reducible repeat (first | refine blk_drewN ?_ _ | refine blk_drew ?_ | refine blk_alloc ?_ _)); exact BK404.out) hb); have n2_ := Aside0.mk (blk_below (g := gb405) (o := wantsO) (by (with_reducible repeat (first | refine blk_drewN ?_ _ | refine blk_drew ?_ | refine blk_alloc ?_ _)); exact BK405.out) hb); have n3_ := Aside0.mk (blk_below (g := gb408) (o := .cells #[.int .i64 ((rd_T46 l0_1 x45_3).f0), .int .i64 ((rd_T46 l0_1 x45_3).f1), .slice A407_2 ((rd_T46 l0_1 x45_3).f2).length c407_2, .int .i64 ((rd_T46 l0_1 x45_3).f3), .int .i64 ((rd_T46 l0_1 x45_3).f4), .slice A407_5 ((rd_T46 l0_1 x45_3).f5).length c407_5, .slice A407_6 ((rd_T46 l0_1 x45_3).f6).length c407_6, .slice A407_7 ((rd_T46 l0_1 x45_3).f7).length c407_7] 46 (0, 0)) (by (with_reducible repeat (first | refine blk_drewN ?_ _ | refine blk_drew ?_ | refine blk_alloc ?_ _)); exact BK408.out) hb); have n4_ := Aside0.mk (below_step (by repeat (first | (with_reducible first | exact HB.out | apply below_alloc | apply pw_below_drewN | apply below_drew1 | refine below_set ?_ GE401.out | refine below_set ?_ GE404.out | refine below_set ?_ GE405.out | refine below_set ?_ GE408.out) | exact HB.out)) hb); clear BK401; clear BK404; clear BK405; clear BK408; clear HB; have BK401 := n0_; have BK404 := n1_; have BK405 := n2_; have BK408 := n3_; have HB := n4_; clear n0_ n1_ n2_ n3_ n4_; (try clear hb); (try clear hb2); (try clear hk); (try clear hi)))
                                go_ret
                                exact ⟨by first | rfl | (simp [errW_none, errW_some] <;> rfl) | (simp [*, errW_none, errW_some] <;> rfl), by repeat (first | (with_reducible first | exact HB.out | apply below_alloc | apply pw_below_drewN | apply below_drew1 | refine below_set ?_ GE401.out | refine below_set ?_ GE404.out | refine below_set ?_ GE405.out | refine below_set ?_ GE408.out) | exact HB.out)⟩
                            · replace c41 := Bool.eq_false_iff.mpr c41
                              subst c41
                              have H1 : (some false) = some r := by rw [if_neg (show ¬ (false = true) by decide)] at H; exact H
                              clear H
                              have H := H1
                              clear H1
                              obtain rfl := Option.some.inj H
                              simp only [Option.some.injEq, Prod.mk.injEq] at H
                              obtain ⟨rfl⟩ := H
                              have p407 : 0 ≤ (x45_3 : Int) := of_decide_eq_true (by first | (with_reducible assumption) | assumption)
                              have q407 : x45_3 < (l0_1.length : Int) := of_decide_eq_true (by first | (with_reducible assumption) | assumption)
                              obtain ⟨ad407, A407_2, c407_2, A407_5, c407_5, A407_6, c407_6, A407_7, c407_7, e407, hx407_0, hx407_1, hx407_2, hx407_3, hx407_4, hx407_5, hx407_6, hx407_7, hl407_2, hi407_2, hl407_5, hi407_5, hl407_6, hi407_6, hl407_7, hi407_7⟩ := at_T46 HR0_1.out x45_3 p407 q407
                              obtain rfl : ad403 = ad407 := (by injection e407)
                              replace hx407_0 := (HB.out.cell (World.block_lt_of_cell? w _ hx407_0)).trans hx407_0
                              replace hx407_1 := (HB.out.cell (World.block_lt_of_cell? w _ hx407_1)).trans hx407_1
                              replace hx407_2 := (HB.out.cell (World.block_lt_of_cell? w _ hx407_2)).trans hx407_2
                              replace hx407_3 := (HB.out.cell (World.block_lt_of_cell? w _ hx407_3)).trans hx407_3
                              replace hx407_4 := (HB.out.cell (World.block_lt_of_cell? w _ hx407_4)).trans hx407_4
                              replace hx407_5 := (HB.out.cell (World.block_lt_of_cell? w _ hx407_5)).trans hx407_5
                              replace hx407_6 := (HB.out.cell (World.block_lt_of_cell? w _ hx407_6)).trans hx407_6
                              replace hx407_7 := (HB.out.cell (World.block_lt_of_cell? w _ hx407_7)).trans hx407_7
                              have HR407_2 := Aside0.mk hi407_2
                              have HC407_2 := Aside0.mk hl407_2
                              clear hi407_2 hl407_2
                              have HR407_5 := Aside0.mk hi407_5
                              have HC407_5 := Aside0.mk hl407_5
                              clear hi407_5 hl407_5
                              have HR407_6 := Aside0.mk hi407_6
                              have HC407_6 := Aside0.mk hl407_6
                              clear hi407_6 hl407_6
                              have HR407_7 := Aside0.mk hi407_7
                              have HC407_7 := Aside0.mk hl407_7
                              clear hi407_7 hl407_7
                              replace p407 := eq_true p407
                              replace q407 := eq_true q407
                              go_wp2_with (first | ((with_reducible refine gate_dst (N := 6) rfl ?_); (try (refine gate_guard (by rfl) ?_; dsimp only)); refine box_event ?hg (N := 6) ?hd (cs := #[.int .i64 0, .int .i64 0, .slice none 0 0, .int .i64 0, .int .i64 0, .slice none 0 0, .slice none 0 0, .slice none 0 0]) (t := 46) ?hr ?_; (case hd => rfl); (case hg => rfl); (case hr => first | (go_simp; done) | (go_simp; rfl)); intro gb408 hg w74 hbox hb; have n0_ := Aside0.mk (blk_below (g := gb401) (o := .cells #[.slice A0_0 l0_0.length c0_0, .slice (some ad403) l0_1.length c0_1] 31 (0, 0)) (by (with_reducible repeat (first | refine blk_drewN ?_ _ | refine blk_drew ?_ | refine blk_alloc ?_ _)); exact BK401.out) hb); have n1_ := Aside0.mk (blk_below (g := gb404) (o := .cells #[.int .i64 ((rd_T46 l0_1 0).f0), .int .i64 ((rd_T46 l0_1 0).f1), .slice A403_2 ((rd_T46 l0_1 0).f2).length c403_2, .int .i64 ((rd_T46 l0_1 0).f3), .int .i64 ((rd_T46 l0_1 0).f4), .slice A403_5 ((rd_T46 l0_1 0).f5).length c403_5, .slice A403_6 ((rd_T46 l0_1 0).f6).length c403_6, .slice A403_7 ((rd_T46 l0_1 0).f7).length c403_7] 46 (0, 0)) (by (with_reducible repeat (first | refine blk_drewN ?_ _ | refine blk_drew ?_ | refine blk_alloc ?_ _)); exact BK404.out) hb); have n2_ := Aside0.mk (blk_below (g := gb405) (o := wantsO) (by (with_reducible repeat (first | refine blk_drewN ?_ _ | refine blk_drew ?_ | refine blk_alloc ?_ _)); exact BK405.out) hb); have n3_ := Aside0.mk (below_step (by repeat (first | (with_reducible first | exact HB.out | apply below_alloc | apply pw_below_drewN | apply below_drew1 | refine below_set ?_ GE401.out | refine below_set ?_ GE404.out | refine below_set ?_ GE405.out) | exact HB.out)) hb); have n4_ := Aside0.mk (hbox); have n5_ := Aside0.mk ((by rw [hg]; exact (below_size (by repeat (first | (with_reducible first | exact HB.out | apply below_alloc | apply pw_below_drewN | apply below_drew1 | refine below_set ?_ GE401.out | refine below_set ?_ GE404.out | refine below_set ?_ GE405.out) | exact HB.out))) : w.heap.size ≤ gb408)); have n6_ := Aside0.mk ((by rw [hg]; exact (below_size (by repeat (first | (with_reducible first | exact HB.out | apply below_alloc | apply pw_below_drewN | apply below_drew1 | refine below_set ?_ GE401.out | refine below_set ?_ GE404.out | refine below_set ?_ GE405.out) | exact HB.out))) : w.heap.size ≤ gb408)); have n7_ := Aside0.mk ((by rw [hg]; exact Nat.ne_of_lt (blk_lt (g := gb401) (o := .cells #[.slice A0_0 l0_0.length c0_0, .slice (some ad403) l0_1.length c0_1] 31 (0, 0)) (by (with_reducible repeat (first | refine blk_drewN ?_ _ | refine blk_drew ?_ | refine blk_alloc ?_ _)); exact BK401.out)) : gb401 ≠ gb408)); have n8_ := Aside0.mk ((by rw [hg]; exact Nat.ne_of_gt (blk_lt (g := gb401) (o := .cells #[.slice A0_0 l0_0.length c0_0, .slice (some ad403) l0_1.length c0_1] 31 (0, 0)) (by (with_reducible repeat (first | refine blk_drewN ?_ _ | refine blk_drew ?_ | refine blk_alloc ?_ _)); exact BK401.out)) : gb408 ≠ gb401)); have n9_ := Aside0.mk ((by rw [hg]; exact Nat.ne_of_lt (blk_lt (g := gb404) (o := .cells #[.int .i64 ((rd_T46 l0_1 0).f0), .int .i64 ((rd_T46 l0_1 0).f1), .slice A403_2 ((rd_T46 l0_1 0).f2).length c403_2, .int .i64 ((rd_T46 l0_1 0).f3), .int .i64 ((rd_T46 l0_1 0).f4), .slice A403_5 ((rd_T46 l0_1 0).f5).length c403_5, .slice A403_6 ((rd_T46 l0_1 0).f6).length c403_6, .slice A403_7 ((rd_T46 l0_1 0).f7).length c403_7] 46 (0, 0)) (by (with_reducible repeat (first | refine blk_drewN ?_ _ | refine blk_drew ?_ | refine blk_alloc ?_ _)); exact BK404.out)) : gb404 ≠ gb408)); have n10_ := Aside0.mk ((by rw [hg]; exact Nat.ne_of_gt (blk_lt (g := gb404) (o := .cells #[.int .i64 ((rd_T46 l0_1 0).f0), .int .i64 ((rd_T46 l0_1 0).f1), .slice A403_2 ((rd_T46 l0_1 0).f2).length c403_2, .int .i64 ((rd_T46 l0_1 0).f3), .int .i64 ((rd_T46 l0_1 0).f4), .slice A403_5 ((rd_T46 l0_1 0).f5).length c403_5, .slice A403_6 ((rd_T46 l0_1 0).f6).length c403_6, .slice A403_7 ((rd_T46 l0_1 0).f7).length c403_7] 46 (0, 0)) (by (with_reducible repeat (first | refine blk_drewN ?_ _ | refine blk_drew ?_ | refine blk_alloc ?_ _)); exact BK404.out)) : gb408 ≠ gb404)); have n11_ := Aside0.mk ((by rw [hg]; exact Nat.ne_of_lt (blk_lt (g := gb405) (o := wantsO) (by (with_reducible repeat (first | refine blk_drewN ?_ _ | refine blk_drew ?_ | refine blk_alloc ?_ _)); exact BK405.out)) : gb405 ≠ gb408)); have n12_ := Aside0.mk ((by rw [hg]; exact Nat.ne_of_gt (blk_lt (g := gb405) (o := wantsO) (by (with_reducible repeat (first | refine blk_drewN ?_ _ | refine blk_drew ?_ | refine blk_alloc ?_ _)); exact BK405.out)) : gb408 ≠ gb405)); clear BK401; clear BK404; clear BK405; clear HB; have BK401 := n0_; have BK404 := n1_; have BK405 := n2_; have HB := n3_; have BK408 := n4_; have GW408 := n5_; have GE408 := n6_; have NB401_408 := n7_; have NB408_401 := n8_; have NB404_408 := n9_; have NB408_404 := n10_; have NB405_408 := n11_; have NB408_405 := n12_; clear n0_ n1_ n2_ n3_ n4_ n5_ n6_ n7_ n8_ n9_ n10_ n11_ n12_; clear hb hbox hg; have hnb75 := NB408_401.out; have hnc75 := NB401_408.out; have hnb76 := NB408_404.out; have hnc76 := NB404_408.out; have hnb77 := NB408_405.out; have hnc77 := NB405_408.out; have hcz78_0 : w74.cell? ⟨gb408, 0, none⟩ = some (.int .i64 0) := (blk_cell BK408.out 0).trans rfl; have hcz78_1 : w74.cell? ⟨gb408, 1, none⟩ = some (.int .i64 0) := (blk_cell BK408.out 1).trans rfl; have hcz78_2 : w74.cell? ⟨gb408, 2, none⟩ = some (.slice none 0 0) := (blk_cell BK408.out 2).trans rfl; have hcz78_3 : w74.cell? ⟨gb408, 3, none⟩ = some (.int .i64 0) := (blk_cell BK408.out 3).trans rfl; have hcz78_4 : w74.cell? ⟨gb408, 4, none⟩ = some (.int .i64 0) := (blk_cell BK408.out 4).trans rfl; have hcz78_5 : w74.cell? ⟨gb408, 5, none⟩ = some (.slice none 0 0) := (blk_cell BK408.out 5).trans rfl; have hcz78_6 : w74.cell? ⟨gb408, 6, none⟩ = some (.slice none 0 0) := (blk_cell BK408.out 6).trans rfl; have hcz78_7 : w74.cell? ⟨gb408, 7, none⟩ = some (.slice none 0 0) := (blk_cell BK408.out 7).trans rfl; have hfz78_0 := blk_frozen BK408.out 0; have hfz78_1 := blk_frozen BK408.out 1; have hfz78_2 := blk_frozen BK408.out 2; have hfz78_3 := blk_frozen BK408.out 3; have hfz78_4 := blk_frozen BK408.out 4; have hfz78_5 := blk_frozen BK408.out 5; have hfz78_6 := blk_frozen BK408.out 6; have hfz78_7 := blk_frozen BK408.out 7; have hnb79 := NB401_404.out; have hnc79 := NB404_401.out; have hnb80 := NB401_405.out; have hnc80 := NB405_401.out; have hcz81_0 : w74.cell? ⟨gb401, 0, none⟩ = some (.slice A0_0 l0_0.length c0_0) := (blk_cell BK401.out 0).trans rfl; have hcz81_1 : w74.cell? ⟨gb401, 1, none⟩ = some (.slice (some ad403) l0_1.length c0_1) := (blk_cell BK401.out 1).trans rfl; have hfz81_0 := blk_frozen BK401.out 0; have hfz81_1 := blk_frozen BK401.out 1) | ((with_reducible refine gate_callee (f := 22) rfl ?_); refine goesL_ (some 51) rfl rfl Try.func22 (by kernel_rfl) rfl #[.agg #[.slice A0_0 l0_0.length c0_0, .slice (some ad403) l0_1.length c0_1], .agg #[.int .i64 ((rd_T46 l0_1 x45_3).f0), .int .i64 ((rd_T46 l0_1 x45_3).f1), .slice A407_2 ((rd_T46 l0_1 x45_3).f2).length c407_2, .int .i64 ((rd_T46 l0_1 x45_3).f3), .int .i64 ((rd_T46 l0_1 x45_3).f4), .slice A407_5 ((rd_T46 l0_1 x45_3).f5).length c407_5, .slice A407_6 ((rd_T46 l0_1 x45_3).f6).length c407_6, .slice A407_7 ((rd_T46 l0_1 x45_3).f7).length c407_7]] rfl (by (try simp only [List.map_toArray, List.map_cons, List.map_nil]); first | done | rfl | (simp only [List.length_drop, List.length_take]; rfl)) ?_; (with_reducible refine (impl_headOk.calls k3 _ _ l0_0 _ _ l0_1 ((rd_T46 l0_1 x45_3).f0) ((rd_T46 l0_1 x45_3).f1) _ _ ((rd_T46 l0_1 x45_3).f2) ((rd_T46 l0_1 x45_3).f3) ((rd_T46 l0_1 x45_3).f4) _ _ ((rd_T46 l0_1 x45_3).f5) _ _ ((rd_T46 l0_1 x45_3).f6) _ _ ((rd_T46 l0_1 x45_3).f7) true _ ?side1 ?side2 ?side3 ?side4 ?side5 ?side6 ?side7 ?side8 ?side9 ?side10 ?side11 ?side12 A38.out).mono ?_); (case side1 => exact Kd.C_below HR0_0.out (by repeat (first | (with_reducible first | exact HB.out | apply below_alloc | apply pw_below_drewN | apply below_drew1 | refine below_set ?_ GE401.out | refine below_set ?_ GE404.out | refine below_set ?_ GE405.out | refine below_set ?_ GE408.out) | exact HB.out))); (case side2 => exact HC0_0.out); (case side3 => exact Kd.C_below HR0_1.out (by repeat (first | (with_reducible first | exact HB.out | apply below_alloc | apply pw_below_drewN | apply below_drew1 | refine below_set ?_ GE401.out | refine below_set ?_ GE404.out | refine below_set ?_ GE405.out | refine below_set ?_ GE408.out) | exact HB.out))); (case side4 => exact HC0_1.out); (case side5 => exact Kd.C_below HR407_2.out (by repeat (first | (with_reducible first | exact HB.out | apply below_alloc | apply pw_below_drewN | apply below_drew1 | refine below_set ?_ GE401.out | refine below_set ?_ GE404.out | refine below_set ?_ GE405.out | refine below_set ?_ GE408.out) | exact HB.out))); (case side6 => exact HC407_2.out); (case side7 => exact Kd.C_below HR407_5.out (by repeat (first | (with_reducible first | exact HB.out | apply below_alloc | apply pw_below_drewN | apply below_drew1 | refine below_set ?_ GE401.out | refine below_set ?_ GE404.out | refine below_set ?_ GE405.out | refine below_set ?_ GE408.out) | exact HB.out))); (case side8 => exact HC407_5.out); (case side9 => exact Kd.C_below HR407_6.out (by repeat (first | (with_reducible first | exact HB.out | apply below_alloc | apply pw_below_drewN | apply below_drew1 | refine below_set ?_ GE401.out | refine below_set ?_ GE404.out | refine below_set ?_ GE405.out | refine below_set ?_ GE408.out) | exact HB.out))); (case side10 => exact HC407_6.out); (case side11 => exact Kd.C_below HR407_7.out (by repeat (first | (with_reducible first | exact HB.out | apply below_alloc | apply pw_below_drewN | apply below_drew1 | refine below_set ?_ GE401.out | refine below_set ?_ GE404.out | refine below_set ?_ GE405.out | refine below_set ?_ GE408.out) | exact HB.out))); (case side12 => exact HC407_7.out); rintro e w82 ⟨rfl, hb⟩; refine ⟨_, rfl, ?_⟩; have n0_ := Aside0.mk (blk_below (g := gb401) (o := .cells #[.slice A0_0 l0_0.length c0_0, .slice (some ad403) l0_1.length c0_1] 31 (0, 0)) (by (with_reducible repeat (first | refine blk_drewN ?_ _ | refine blk_drew ?_ | refine blk_alloc ?_ _)); refine blk_far ?_ NB401_408.out _; (with_reducible repeat (first | refine blk_drewN ?_ _ | refine blk_drew ?_ | refine blk_alloc ?_ _)); refine blk_far ?_ NB401_408.out _; (with_reducible repeat (first | refine blk_drewN ?_ _ | refine blk_drew ?_ | refine blk_alloc ?_ _)); refine blk_far ?_ NB401_408.out _; (with_reducible repeat (first | refine blk_drewN ?_ _ | refine blk_drew ?_ | refine blk_alloc ?_ _)); refine blk_far ?_ NB401_408.out _; (with_reducible repeat (first | refine blk_drewN ?_ _ | refine blk_drew ?_ | refine blk_alloc ?_ _)); refine blk_far ?_ NB401_408.out _; (with_reducible repeat (first | refine blk_drewN ?_ _ | refine blk_drew ?_ | refine blk_alloc ?_ _)); refine blk_far ?_ NB401_408.out _; (with_reducible repeat (first | refine blk_drewN ?_ _ | refine blk_drew ?_ | refine blk_alloc ?_ _)); refine blk_far ?_ NB401_408.out _; (with_reducible repeat (first | refine blk_drewN ?_ _ | refine blk_drew ?_ | refine blk_alloc ?_ _)); refine blk_far ?_ NB401_408.out _; (with_reducible repeat (first | refine blk_drewN ?_ _ | refine blk_drew ?_ | refine blk_alloc ?_ _)); exact BK401.out) hb); have n1_ := Aside0.mk (blk_below (g := gb404) (o := .cells #[.int .i64 ((rd_T46 l0_1 0).f0), .int .i64 ((rd_T46 l0_1 0).f1), .slice A403_2 ((rd_T46 l0_1 0).f2).length c403_2, .int .i64 ((rd_T46 l0_1 0).f3), .int .i64 ((rd_T46 l0_1 0).f4), .slice A403_5 ((rd_T46 l0_1 0).f5).length c403_5, .slice A403_6 ((rd_T46 l0_1 0).f6).length c403_6, .slice A403_7 ((rd_T46 l0_1 0).f7).length c403_7] 46 (0, 0)) (by (with_reducible repeat (first | refine blk_drewN ?_ _ | refine blk_drew ?_ | refine blk_alloc ?_ _)); refine blk_far ?_ NB404_408.out _; (with_reducible repeat (first | refine blk_drewN ?_ _ | refine blk_drew ?_ | refine blk_alloc ?_ _)); refine blk_far ?_ NB404_408.out _; (with_reducible repeat (first | refine blk_drewN ?_ _ | refine blk_drew ?_ | refine blk_alloc ?_ _)); refine blk_far ?_ NB404_408.out _; (with_reducible repeat (first | refine blk_drewN ?_ _ | refine blk_drew ?_ | refine blk_alloc ?_ _)); refine blk_far ?_ NB404_408.out _; (with_reducible repeat (first | refine blk_drewN ?_ _ | refine blk_drew ?_ | refine blk_alloc ?_ _)); refine blk_far ?_ NB404_408.out _; (with_reducible repeat (first | refine blk_drewN ?_ _ | refine blk_drew ?_ | refine blk_alloc ?_ _)); refine blk_far ?_ NB404_408.out _; (with_reducible repeat (first | refine blk_drewN ?_ _ | refine blk_drew ?_ | refine blk_alloc ?_ _)); refine blk_far ?_ NB404_408.out _; (with_reducible repeat (first | refine blk_drewN ?_ _ | refine blk_drew ?_ | refine blk_alloc ?_ _)); refine blk_far ?_ NB404_408.out _; (with_reducible repeat (first | refine blk_drewN ?_ _ | refine blk_drew ?_ | refine blk_alloc ?_ _)); exact BK404.out) hb); have n2_ := Aside0.mk (blk_below (g := gb405) (o := wantsO) (by (with_reducible repeat (first | refine blk_drewN ?_ _ | refine blk_drew ?_ | refine blk_alloc ?_ _)); refine obj_far ?_ NB405_408.out _; (with_reducible repeat (first | refine blk_drewN ?_ _ | refine blk_drew ?_ | refine blk_alloc ?_ _)); refine obj_far ?_ NB405_408.out _; (with_reducible repeat (first | refine blk_drewN ?_ _ | refine blk_drew ?_ | refine blk_alloc ?_ _)); refine obj_far ?_ NB405_408.out _; (with_reducible repeat (first | refine blk_drewN ?_ _ | refine blk_drew ?_ | refine blk_alloc ?_ _)); refine obj_far ?_ NB405_408.out _; (with_reducible repeat (first | refine blk_drewN ?_ _ | refine blk_drew ?_ | refine blk_alloc ?_ _)); refine obj_far ?_ NB405_408.out _; (with_reducible repeat (first | refine blk_drewN ?_ _ | refine blk_drew ?_ | refine blk_alloc ?_ _)); refine obj_far ?_ NB405_408.out _; (with_reducible repeat (first | refine blk_drewN ?_ _ | refine blk_drew ?_ | refine blk_alloc ?_ _)); refine obj_far ?_ NB405_408.out _; (with_reducible repeat (first | refine blk_drewN ?_ _ | refine blk_drew ?_ | refine blk_alloc ?_ _)); refine obj_far ?_ NB405_408.out _; (with_reducible repeat (first | refine blk_drewN ?_ _ | refine blk_drew ?_ | refine blk_alloc ?_ _)); exact BK405.out) hb); have n3_ := Aside0.mk (blk_below (g := gb408) (o := .cells #[.int .i64 ((rd_T46 l0_1 x45_3).f0), .int .i64 ((rd_T46 l0_1 x45_3).f1), .slice A407_2 ((rd_T46 l0_1 x45_3).f2).length c407_2, .int .i64 ((rd_T46 l0_1 x45_3).f3), .int .i64 ((rd_T46 l0_1 x45_3).f4), .slice A407_5 ((rd_T46 l0_1 x45_3).f5).length c407_5, .slice A407_6 ((rd_T46 l0_1 x45_3).f6).length c407_6, .slice A407_7 ((rd_T46 l0_1 x45_3).f7).length c407_7] 46 (0, 0)) (by (with_reducible repeat (first | refine blk_drewN ?_ _ | refine blk_drew ?_ | refine blk_alloc ?_ _)); refine blk_put (cs := #[.int .i64 ((rd_T46 l0_1 x45_3).f0), .int .i64 ((rd_T46 l0_1 x45_3).f1), .slice A407_2 ((rd_T46 l0_1 x45_3).f2).length c407_2, .int .i64 ((rd_T46 l0_1 x45_3).f3), .int .i64 ((rd_T46 l0_1 x45_3).f4), .slice A407_5 ((rd_T46 l0_1 x45_3).f5).length c407_5, .slice A407_6 ((rd_T46 l0_1 x45_3).f6).length c407_6, .slice none 0 0]) ?_ 7 _ rfl; (with_reducible repeat (first | refine blk_drewN ?_ _ | refine blk_drew ?_ | refine blk_alloc ?_ _)); refine blk_put (cs := #[.int .i64 ((rd_T46 l0_1 x45_3).f0), .int .i64 ((rd_T46 l0_1 x45_3).f1), .slice A407_2 ((rd_T46 l0_1 x45_3).f2).length c407_2, .int .i64 ((rd_T46 l0_1 x45_3).f3), .int .i64 ((rd_T46 l0_1 x45_3).f4), .slice A407_5 ((rd_T46 l0_1 x45_3).f5).length c407_5, .slice none 0 0, .slice none 0 0]) ?_ 6 _ rfl; (with_reducible repeat (first | refine blk_drewN ?_ _ | refine blk_drew ?_ | refine blk_alloc ?_ _)); refine blk_put (cs := #[.int .i64 ((rd_T46 l0_1 x45_3).f0), .int .i64 ((rd_T46 l0_1 x45_3).f1), .slice A407_2 ((rd_T46 l0_1 x45_3).f2).length c407_2, .int .i64 ((rd_T46 l0_1 x45_3).f3), .int .i64 ((rd_T46 l0_1 x45_3).f4), .slice none 0 0, .slice none 0 0, .slice none 0 0]) ?_ 5 _ rfl; (with_reducible repeat (first | refine blk_drewN ?_ _ | refine blk_drew ?_ | refine blk_alloc ?_ _)); refine blk_put (cs := #[.int .i64 ((rd_T46 l0_1 x45_3).f0), .int .i64 ((rd_T46 l0_1 x45_3).f1), .slice A407_2 ((rd_T46 l0_1 x45_3).f2).length c407_2, .int .i64 ((rd_T46 l0_1 x45_3).f3), .int .i64 0, .slice none 0 0, .slice none 0 0, .slice none 0 0]) ?_ 4 _ rfl; (with_reducible repeat (first | refine blk_drewN ?_ _ | refine blk_drew ?_ | refine blk_alloc ?_ _)); refine blk_put (cs := #[.int .i64 ((rd_T46 l0_1 x45_3).f0), .int .i64 ((rd_T46 l0_1 x45_3).f1), .slice A407_2 ((rd_T46 l0_1 x45_3).f2).length c407_2, .int .i64 0, .int .i64 0, .slice none 0 0, .slice none 0 0, .slice none 0 0]) ?_ 3 _ rfl; (with_reducible repeat (first | refine blk_drewN ?_ _ | refine blk_drew ?_ | refine blk_alloc ?_ _)); refine blk_put (cs := #[.int .i64 ((rd_T46 l0_1 x45_3).f0), .int .i64 ((rd_T46 l0_1 x45_3).f1), .slice none 0 0, .int .i64 0, .int .i64 0, .slice none 0 0, .slice none 0 0, .slice none 0 0]) ?_ 2 _ rfl; (with_reducible repeat (first | refine blk_drewN ?_ _ | refine blk_drew ?_ | refine blk_alloc ?_ _)); refine blk_put (cs := #[.int .i64 ((rd_T46 l0_1 x45_3).f0), .int .i64 0, .slice none 0 0, .int .i64 0, .int .i64 0, .slice none 0 0, .slice none 0 0, .slice none 0 0]) ?_ 1 _ rfl; (with_reducible repeat (first | refine blk_drewN ?_ _ | refine blk_drew ?_ | refine blk_alloc ?_ _)); refine blk_put (cs := #[.int .i64 0, .int .i64 0, .slice none 0 0, .int .i64 0, .int .i64 0, .slice none 0 0, .slice none 0 0, .slice none 0 0]) ?_ 0 _ rfl; (with_reducible repeat (first | refine blk_drewN ?_ _ | refine blk_drew ?_ | refine blk_alloc ?_ _)); exact BK408.out) hb); have n4_ := Aside0.mk (below_step (by repeat (first | (with_reducible first | exact HB.out | apply below_alloc | apply pw_below_drewN | apply below_drew1 | refine below_set ?_ GE401.out | refine below_set ?_ GE404.out | refine below_set ?_ GE405.out | refine below_set ?_ GE408.out) | exact HB.out)) hb); clear BK401; clear BK404; clear BK405; clear BK408; clear HB; have BK401 := n0_; have BK404 := n1_; have BK405 := n2_; have BK408 := n3_; have HB := n4_; clear n0_ n1_ n2_ n3_ n4_; (try clear hb); (try clear hb2); (try clear hk); (try clear hi); have hcz83_0 : w82.cell? ⟨gb401, 0, none⟩ = some (.slice A0_0 l0_0.length c0_0) := (blk_cell BK401.out 0).trans rfl; have hcz83_1 : w82.cell? ⟨gb401, 1, none⟩ = some (.slice (some ad403) l0_1.length c0_1) := (blk_cell BK401.out 1).trans rfl; have hfz83_0 := blk_frozen BK401.out 0; have hfz83_1 := blk_frozen BK401.out 1; have hcz84_0 : w82.cell? ⟨gb408, 0, none⟩ = some (.int .i64 ((rd_T46 l0_1 x45_3).f0)) := (blk_cell BK408.out 0).trans rfl; have hcz84_1 : w82.cell? ⟨gb408, 1, none⟩ = some (.int .i64 ((rd_T46 l0_1 x45_3).f1)) := (blk_cell BK408.out 1).trans rfl; have hcz84_2 : w82.cell? ⟨gb408, 2, none⟩ = some (.slice A407_2 ((rd_T46 l0_1 x45_3).f2).length c407_2) := (blk_cell BK408.out 2).trans rfl; have hcz84_3 : w82.cell? ⟨gb408, 3, none⟩ = some (.int .i64 ((rd_T46 l0_1 x45_3).f3)) := (blk_cell BK408.out 3).trans rfl; have hcz84_4 : w82.cell? ⟨gb408, 4, none⟩ = some (.int .i64 ((rd_T46 l0_1 x45_3).f4)) := (blk_cell BK408.out 4).trans rfl; have hcz84_5 : w82.cell? ⟨gb408, 5, none⟩ = some (.slice A407_5 ((rd_T46 l0_1 x45_3).f5).length c407_5) := (blk_cell BK408.out 5).trans rfl; have hcz84_6 : w82.cell? ⟨gb408, 6, none⟩ = some (.slice A407_6 ((rd_T46 l0_1 x45_3).f6).length c407_6) := (blk_cell BK408.out 6).trans rfl; have hcz84_7 : w82.cell? ⟨gb408, 7, none⟩ = some (.slice A407_7 ((rd_T46 l0_1 x45_3).f7).length c407_7) := (blk_cell BK408.out 7).trans rfl; have hfz84_0 := blk_frozen BK408.out 0; have hfz84_1 := blk_frozen BK408.out 1; have hfz84_2 := blk_frozen BK408.out 2; have hfz84_3 := blk_frozen BK408.out 3; have hfz84_4 := blk_frozen BK408.out 4; have hfz84_5 := blk_frozen BK408.out 5; have hfz84_6 := blk_frozen BK408.out 6; have hfz84_7 := blk_frozen BK408.out 7) | (go_at_call 23; (with_reducible refine (impl_codeOk.calls k3 _ _ l0_0 _ _ l0_1 ((rd_T46 l0_1 x45_3).f0) ((rd_T46 l0_1 x45_3).f1) _ _ ((rd_T46 l0_1 x45_3).f2) ((rd_T46 l0_1 x45_3).f3) ((rd_T46 l0_1 x45_3).f4) _ _ ((rd_T46 l0_1 x45_3).f5) _ _ ((rd_T46 l0_1 x45_3).f6) _ _ ((rd_T46 l0_1 x45_3).f7) 0 false _ ?side1 ?side2 ?side3 ?side4 ?side5 ?side6 ?side7 ?side8 ?side9 ?side10 ?side11 ?side12 ?sideM A40.out).mono ?_); (case sideM => (with_reducible repeat (first | refine blk_drewN ?_ _ | refine blk_drew ?_ | refine blk_alloc ?_ _)); exact BK405.out); (case side1 => repeat (first | exact (Kd.C_below HR0_0.out HB.out) | (with_reducible refine Kd.C_alloc ?_ _) | (with_reducible refine Kd.C_drewN ?_ _) | (with_reducible refine Kd.C_drew ?_))); (case side2 => exact HC0_0.out); (case side3 => repeat (first | exact (Kd.C_below HR0_1.out HB.out) | (with_reducible refine Kd.C_alloc ?_ _) | (with_reducible refine Kd.C_drewN ?_ _) | (with_reducible refine Kd.C_drew ?_))); (case side4 => exact HC0_1.out); (case side5 => repeat (first | exact (Kd.C_below HR407_2.out HB.out) | (with_reducible refine Kd.C_alloc ?_ _) | (with_reducible refine Kd.C_drewN ?_ _) | (with_reducible refine Kd.C_drew ?_))); (case side6 => exact HC407_2.out); (case side7 => repeat (first | exact (Kd.C_below HR407_5.out HB.out) | (with_reducible refine Kd.C_alloc ?_ _) | (with_reducible refine Kd.C_drewN ?_ _) | (with_reducible refine Kd.C_drew ?_))); (case side8 => exact HC407_5.out); (case side9 => repeat (first | exact (Kd.C_below HR407_6.out HB.out) | (with_reducible refine Kd.C_alloc ?_ _) | (with_reducible refine Kd.C_drewN ?_ _) | (with_reducible refine Kd.C_drew ?_))); (case side10 => exact HC407_6.out); (case side11 => repeat (first | exact (Kd.C_below HR407_7.out HB.out) | (with_reducible refine Kd.C_alloc ?_ _) | (with_reducible refine Kd.C_drewN ?_ _) | (with_reducible refine Kd.C_drew ?_))); (case side12 => exact HC407_7.out); rintro e w85 ⟨rfl, hb⟩; have n0_ := Aside0.mk (blk_below (g := gb401) (o := .cells #[.slice A0_0 l0_0.length c0_0, .slice (some ad403) l0_1.length c0_1] 31 (0, 0)) (by (with_reducible repeat (first | refine blk_drewN ?_ _ | refine blk_drew ?_ | refine blk_alloc ?_ _)); exact BK401.out) hb); have n1_ := Aside0.mk (blk_below (g := gb404) (o := .cells #[.int .i64 ((rd_T46 l0_1 0).f0), .int .i64 ((rd_T46 l0_1 0).f1), .slice A403_2 ((rd_T46 l0_1 0).f2).length c403_2, .int .i64 ((rd_T46 l0_1 0).f3), .int .i64 ((rd_T46 l0_1 0).f4), .slice A403_5 ((rd_T46 l0_1 0).f5).length c403_5, .slice A403_6 ((rd_T46 l0_1 0).f6).length c403_6, .slice A403_7 ((rd_T46 l0_1 0).f7).length c403_7] 46 (0, 0)) (by (with_reducible repeat (first | refine blk_drewN ?_ _ | refine blk_drew ?_ | refine blk_alloc ?_ _)); exact BK404.out) hb); have n2_ := Aside0.mk (blk_below (g := gb405) (o := wantsO) (by (with_reducible repeat (first | refine blk_drewN ?_ _ | refine blk_drew ?_ | refine blk_alloc ?_ _)); exact BK405.out) hb); have n3_ := Aside0.mk (blk_below (g := gb408) (o := .cells #[.int .i64 ((rd_T46 l0_1 x45_3).f0), .int .i64 ((rd_T46 l0_1 x45_3).f1), .slice A407_2 ((rd_T46 l0_1 x45_3).f2).length c407_2, .int .i64 ((rd_T46 l0_1 x45_3).f3), .int .i64 ((rd_T46 l0_1 x45_3).f4), .slice A407_5 ((rd_T46 l0_1 x45_3).f5).length c407_5, .slice A407_6 ((rd_T46 l0_1 x45_3).f6).length c407_6, .slice A407_7 ((rd_T46 l0_1 x45_3).f7).length c407_7] 46 (0, 0)) (by (with_reducible repeat (first | refine blk_drewN ?_ _ | refine blk_drew ?_ | refine blk_alloc ?_ _)); exact BK408.out) hb); have n4_ := Aside0.mk (below_step (by repeat (first | (with_reducible first | exact HB.out | apply below_alloc | apply pw_below_drewN | apply below_drew1 | refine below_set ?_ GE401.out | refine below_set ?_ GE404.out | refine below_set ?_ GE405.out | refine below_set ?_ GE408.out) | exact HB.out)) hb); clear BK401; clear BK404; clear BK405; clear BK408; clear HB; have BK401 := n0_; have BK404 := n1_; have BK405 := n2_; have BK408 := n3_; have HB := n4_; clear n0_ n1_ n2_ n3_ n4_; (try clear hb); (try clear hb2); (try clear hk); (try clear hi)))
                              go_ret
                              exact ⟨by first | rfl | (simp [errW_none, errW_some] <;> rfl) | (simp [*, errW_none, errW_some] <;> rfl), by repeat (first | (with_reducible first | exact HB.out | apply below_alloc | apply pw_below_drewN | apply below_drew1 | refine below_set ?_ GE401.out | refine below_set ?_ GE404.out | refine below_set ?_ GE405.out | refine below_set ?_ GE408.out) | exact HB.out)⟩
                          · replace c39 := Bool.eq_false_iff.mpr c39
                            subst c39
                            have H1 : (some false) = some r := by rw [if_neg (show ¬ (false = true) by decide)] at H; exact H
                            clear H
                            have H := H1
                            clear H1
                            obtain rfl := Option.some.inj H
                            simp only [Option.some.injEq, Prod.mk.injEq] at H
                            obtain ⟨rfl⟩ := H
                            have p407 : 0 ≤ (x45_3 : Int) := of_decide_eq_true (by first | (with_reducible assumption) | assumption)
                            have q407 : x45_3 < (l0_1.length : Int) := of_decide_eq_true (by first | (with_reducible assumption) | assumption)
                            obtain ⟨ad407, A407_2, c407_2, A407_5, c407_5, A407_6, c407_6, A407_7, c407_7, e407, hx407_0, hx407_1, hx407_2, hx407_3, hx407_4, hx407_5, hx407_6, hx407_7, hl407_2, hi407_2, hl407_5, hi407_5, hl407_6, hi407_6, hl407_7, hi407_7⟩ := at_T46 HR0_1.out x45_3 p407 q407
                            obtain rfl : ad403 = ad407 := (by injection e407)
                            replace hx407_0 := (HB.out.cell (World.block_lt_of_cell? w _ hx407_0)).trans hx407_0
                            replace hx407_1 := (HB.out.cell (World.block_lt_of_cell? w _ hx407_1)).trans hx407_1
                            replace hx407_2 := (HB.out.cell (World.block_lt_of_cell? w _ hx407_2)).trans hx407_2
                            replace hx407_3 := (HB.out.cell (World.block_lt_of_cell? w _ hx407_3)).trans hx407_3
                            replace hx407_4 := (HB.out.cell (World.block_lt_of_cell? w _ hx407_4)).trans hx407_4
                            replace hx407_5 := (HB.out.cell (World.block_lt_of_cell? w _ hx407_5)).trans hx407_5
                            replace hx407_6 := (HB.out.cell (World.block_lt_of_cell? w _ hx407_6)).trans hx407_6
                            replace hx407_7 := (HB.out.cell (World.block_lt_of_cell? w _ hx407_7)).trans hx407_7
                            have HR407_2 := Aside0.mk hi407_2
                            have HC407_2 := Aside0.mk hl407_2
                            clear hi407_2 hl407_2
                            have HR407_5 := Aside0.mk hi407_5
                            have HC407_5 := Aside0.mk hl407_5
                            clear hi407_5 hl407_5
                            have HR407_6 := Aside0.mk hi407_6
                            have HC407_6 := Aside0.mk hl407_6
                            clear hi407_6 hl407_6
                            have HR407_7 := Aside0.mk hi407_7
                            have HC407_7 := Aside0.mk hl407_7
                            clear hi407_7 hl407_7
                            replace p407 := eq_true p407
                            replace q407 := eq_true q407
                            go_wp2_with (first | ((with_reducible refine gate_dst (N := 6) rfl ?_); (try (refine gate_guard (by rfl) ?_; dsimp only)); refine box_event ?hg (N := 6) ?hd (cs := #[.int .i64 0, .int .i64 0, .slice none 0 0, .int .i64 0, .int .i64 0, .slice none 0 0, .slice none 0 0, .slice none 0 0]) (t := 46) ?hr ?_; (case hd => rfl); (case hg => rfl); (case hr => first | (go_simp; done) | (go_simp; rfl)); intro gb408 hg w86 hbox hb; have n0_ := Aside0.mk (blk_below (g := gb401) (o := .cells #[.slice A0_0 l0_0.length c0_0, .slice (some ad403) l0_1.length c0_1] 31 (0, 0)) (by (with_reducible repeat (first | refine blk_drewN ?_ _ | refine blk_drew ?_ | refine blk_alloc ?_ _)); exact BK401.out) hb); have n1_ := Aside0.mk (blk_below (g := gb404) (o := .cells #[.int .i64 ((rd_T46 l0_1 0).f0), .int .i64 ((rd_T46 l0_1 0).f1), .slice A403_2 ((rd_T46 l0_1 0).f2).length c403_2, .int .i64 ((rd_T46 l0_1 0).f3), .int .i64 ((rd_T46 l0_1 0).f4), .slice A403_5 ((rd_T46 l0_1 0).f5).length c403_5, .slice A403_6 ((rd_T46 l0_1 0).f6).length c403_6, .slice A403_7 ((rd_T46 l0_1 0).f7).length c403_7] 46 (0, 0)) (by (with_reducible repeat (first | refine blk_drewN ?_ _ | refine blk_drew ?_ | refine blk_alloc ?_ _)); exact BK404.out) hb); have n2_ := Aside0.mk (blk_below (g := gb405) (o := wantsO) (by (with_reducible repeat (first | refine blk_drewN ?_ _ | refine blk_drew ?_ | refine blk_alloc ?_ _)); exact BK405.out) hb); have n3_ := Aside0.mk (below_step (by repeat (first | (with_reducible first | exact HB.out | apply below_alloc | apply pw_below_drewN | apply below_drew1 | refine below_set ?_ GE401.out | refine below_set ?_ GE404.out | refine below_set ?_ GE405.out) | exact HB.out)) hb); have n4_ := Aside0.mk (hbox); have n5_ := Aside0.mk ((by rw [hg]; exact (below_size (by repeat (first | (with_reducible first | exact HB.out | apply below_alloc | apply pw_below_drewN | apply below_drew1 | refine below_set ?_ GE401.out | refine below_set ?_ GE404.out | refine below_set ?_ GE405.out) | exact HB.out))) : w.heap.size ≤ gb408)); have n6_ := Aside0.mk ((by rw [hg]; exact (below_size (by repeat (first | (with_reducible first | exact HB.out | apply below_alloc | apply pw_below_drewN | apply below_drew1 | refine below_set ?_ GE401.out | refine below_set ?_ GE404.out | refine below_set ?_ GE405.out) | exact HB.out))) : w.heap.size ≤ gb408)); have n7_ := Aside0.mk ((by rw [hg]; exact Nat.ne_of_lt (blk_lt (g := gb401) (o := .cells #[.slice A0_0 l0_0.length c0_0, .slice (some ad403) l0_1.length c0_1] 31 (0, 0)) (by (with_reducible repeat (first | refine blk_drewN ?_ _ | refine blk_drew ?_ | refine blk_alloc ?_ _)); exact BK401.out)) : gb401 ≠ gb408)); have n8_ := Aside0.mk ((by rw [hg]; exact Nat.ne_of_gt (blk_lt (g := gb401) (o := .cells #[.slice A0_0 l0_0.length c0_0, .slice (some ad403) l0_1.length c0_1] 31 (0, 0)) (by (with_reducible repeat (first | refine blk_drewN ?_ _ | refine blk_drew ?_ | refine blk_alloc ?_ _)); exact BK401.out)) : gb408 ≠ gb401)); have n9_ := Aside0.mk ((by rw [hg]; exact Nat.ne_of_lt (blk_lt (g := gb404) (o := .cells #[.int .i64 ((rd_T46 l0_1 0).f0), .int .i64 ((rd_T46 l0_1 0).f1), .slice A403_2 ((rd_T46 l0_1 0).f2).length c403_2, .int .i64 ((rd_T46 l0_1 0).f3), .int .i64 ((rd_T46 l0_1 0).f4), .slice A403_5 ((rd_T46 l0_1 0).f5).length c403_5, .slice A403_6 ((rd_T46 l0_1 0).f6).length c403_6, .slice A403_7 ((rd_T46 l0_1 0).f7).length c403_7] 46 (0, 0)) (by (with_reducible repeat (first | refine blk_drewN ?_ _ | refine blk_drew ?_ | refine blk_alloc ?_ _)); exact BK404.out)) : gb404 ≠ gb408)); have n10_ := Aside0.mk ((by rw [hg]; exact Nat.ne_of_gt (blk_lt (g := gb404) (o := .cells #[.int .i64 ((rd_T46 l0_1 0).f0), .int .i64 ((rd_T46 l0_1 0).f1), .slice A403_2 ((rd_T46 l0_1 0).f2).length c403_2, .int .i64 ((rd_T46 l0_1 0).f3), .int .i64 ((rd_T46 l0_1 0).f4), .slice A403_5 ((rd_T46 l0_1 0).f5).length c403_5, .slice A403_6 ((rd_T46 l0_1 0).f6).length c403_6, .slice A403_7 ((rd_T46 l0_1 0).f7).length c403_7] 46 (0, 0)) (by (with_reducible repeat (first | refine blk_drewN ?_ _ | refine blk_drew ?_ | refine blk_alloc ?_ _)); exact BK404.out)) : gb408 ≠ gb404)); have n11_ := Aside0.mk ((by rw [hg]; exact Nat.ne_of_lt (blk_lt (g := gb405) (o := wantsO) (by (with_reducible repeat (first | refine blk_drewN ?_ _ | refine blk_drew ?_ | refine blk_alloc ?_ _)); exact BK405.out)) : gb405 ≠ gb408)); have n12_ := Aside0.mk ((by rw [hg]; exact Nat.ne_of_gt (blk_lt (g := gb405) (o := wantsO) (by (with_reducible repeat (first | refine blk_drewN ?_ _ | refine blk_drew ?_ | refine blk_alloc ?_ _)); exact BK405.out)) : gb408 ≠ gb405)); clear BK401; clear BK404; clear BK405; clear HB; have BK401 := n0_; have BK404 := n1_; have BK405 := n2_; have HB := n3_; have BK408 := n4_; have GW408 := n5_; have GE408 := n6_; have NB401_408 := n7_; have NB408_401 := n8_; have NB404_408 := n9_; have NB408_404 := n10_; have NB405_408 := n11_; have NB408_405 := n12_; clear n0_ n1_ n2_ n3_ n4_ n5_ n6_ n7_ n8_ n9_ n10_ n11_ n12_; clear hb hbox hg; have hnb87 := NB408_401.out; have hnc87 := NB401_408.out; have hnb88 := NB408_404.out; have hnc88 := NB404_408.out; have hnb89 := NB408_405.out; have hnc89 := NB405_408.out; have hcz90_0 : w86.cell? ⟨gb408, 0, none⟩ = some (.int .i64 0) := (blk_cell BK408.out 0).trans rfl; have hcz90_1 : w86.cell? ⟨gb408, 1, none⟩ = some (.int .i64 0) := (blk_cell BK408.out 1).trans rfl; have hcz90_2 : w86.cell? ⟨gb408, 2, none⟩ = some (.slice none 0 0) := (blk_cell BK408.out 2).trans rfl; have hcz90_3 : w86.cell? ⟨gb408, 3, none⟩ = some (.int .i64 0) := (blk_cell BK408.out 3).trans rfl; have hcz90_4 : w86.cell? ⟨gb408, 4, none⟩ = some (.int .i64 0) := (blk_cell BK408.out 4).trans rfl; have hcz90_5 : w86.cell? ⟨gb408, 5, none⟩ = some (.slice none 0 0) := (blk_cell BK408.out 5).trans rfl; have hcz90_6 : w86.cell? ⟨gb408, 6, none⟩ = some (.slice none 0 0) := (blk_cell BK408.out 6).trans rfl; have hcz90_7 : w86.cell? ⟨gb408, 7, none⟩ = some (.slice none 0 0) := (blk_cell BK408.out 7).trans rfl; have hfz90_0 := blk_frozen BK408.out 0; have hfz90_1 := blk_frozen BK408.out 1; have hfz90_2 := blk_frozen BK408.out 2; have hfz90_3 := blk_frozen BK408.out 3; have hfz90_4 := blk_frozen BK408.out 4; have hfz90_5 := blk_frozen BK408.out 5; have hfz90_6 := blk_frozen BK408.out 6; have hfz90_7 := blk_frozen BK408.out 7; have hnb91 := NB401_404.out; have hnc91 := NB404_401.out; have hnb92 := NB401_405.out; have hnc92 := NB405_401.out; have hcz93_0 : w86.cell? ⟨gb401, 0, none⟩ = some (.slice A0_0 l0_0.length c0_0) := (blk_cell BK401.out 0).trans rfl; have hcz93_1 : w86.cell? ⟨gb401, 1, none⟩ = some (.slice (some ad403) l0_1.length c0_1) := (blk_cell BK401.out 1).trans rfl; have hfz93_0 := blk_frozen BK401.out 0; have hfz93_1 := blk_frozen BK401.out 1) | ((with_reducible refine gate_callee (f := 22) rfl ?_); refine goesL_ (some 51) rfl rfl Try.func22 (by kernel_rfl) rfl #[.agg #[.slice A0_0 l0_0.length c0_0, .slice (some ad403) l0_1.length c0_1], .agg #[.int .i64 ((rd_T46 l0_1 x45_3).f0), .int .i64 ((rd_T46 l0_1 x45_3).f1), .slice A407_2 ((rd_T46 l0_1 x45_3).f2).length c407_2, .int .i64 ((rd_T46 l0_1 x45_3).f3), .int .i64 ((rd_T46 l0_1 x45_3).f4), .slice A407_5 ((rd_T46 l0_1 x45_3).f5).length c407_5, .slice A407_6 ((rd_T46 l0_1 x45_3).f6).length c407_6, .slice A407_7 ((rd_T46 l0_1 x45_3).f7).length c407_7]] rfl (by (try simp only [List.map_toArray, List.map_cons, List.map_nil]); first | done | rfl | (simp only [List.length_drop, List.length_take]; rfl)) ?_; (with_reducible refine (impl_headOk.calls k3 _ _ l0_0 _ _ l0_1 ((rd_T46 l0_1 x45_3).f0) ((rd_T46 l0_1 x45_3).f1) _ _ ((rd_T46 l0_1 x45_3).f2) ((rd_T46 l0_1 x45_3).f3) ((rd_T46 l0_1 x45_3).f4) _ _ ((rd_T46 l0_1 x45_3).f5) _ _ ((rd_T46 l0_1 x45_3).f6) _ _ ((rd_T46 l0_1 x45_3).f7) false _ ?side1 ?side2 ?side3 ?side4 ?side5 ?side6 ?side7 ?side8 ?side9 ?side10 ?side11 ?side12 A38.out).mono ?_); (case side1 => exact Kd.C_below HR0_0.out (by repeat (first | (with_reducible first | exact HB.out | apply below_alloc | apply pw_below_drewN | apply below_drew1 | refine below_set ?_ GE401.out | refine below_set ?_ GE404.out | refine below_set ?_ GE405.out | refine below_set ?_ GE408.out) | exact HB.out))); (case side2 => exact HC0_0.out); (case side3 => exact Kd.C_below HR0_1.out (by repeat (first | (with_reducible first | exact HB.out | apply below_alloc | apply pw_below_drewN | apply below_drew1 | refine below_set ?_ GE401.out | refine below_set ?_ GE404.out | refine below_set ?_ GE405.out | refine below_set ?_ GE408.out) | exact HB.out))); (case side4 => exact HC0_1.out); (case side5 => exact Kd.C_below HR407_2.out (by repeat (first | (with_reducible first | exact HB.out | apply below_alloc | apply pw_below_drewN | apply below_drew1 | refine below_set ?_ GE401.out | refine below_set ?_ GE404.out | refine below_set ?_ GE405.out | refine below_set ?_ GE408.out) | exact HB.out))); (case side6 => exact HC407_2.out); (case side7 => exact Kd.C_below HR407_5.out (by repeat (first | (with_reducible first | exact HB.out | apply below_alloc | apply pw_below_drewN | apply below_drew1 | refine below_set ?_ GE401.out | refine below_set ?_ GE404.out | refine below_set ?_ GE405.out | refine below_set ?_ GE408.out) | exact HB.out))); (case side8 => exact HC407_5.out); (case side9 => exact Kd.C_below HR407_6.out (by repeat (first | (with_reducible first | exact HB.out | apply below_alloc | apply pw_below_drewN | apply below_drew1 | refine below_set ?_ GE401.out | refine below_set ?_ GE404.out | refine below_set ?_ GE405.out | refine below_set ?_ GE408.out) | exact HB.out))); (case side10 => exact HC407_6.out); (case side11 => exact Kd.C_below HR407_7.out (by repeat (first | (with_reducible first | exact HB.out | apply below_alloc | apply pw_below_drewN | apply below_drew1 | refine below_set ?_ GE401.out | refine below_set ?_ GE404.out | refine below_set ?_ GE405.out | refine below_set ?_ GE408.out) | exact HB.out))); (case side12 => exact HC407_7.out); rintro e w94 ⟨rfl, hb⟩; refine ⟨_, rfl, ?_⟩; have n0_ := Aside0.mk (blk_below (g := gb401) (o := .cells #[.slice A0_0 l0_0.length c0_0, .slice (some ad403) l0_1.length c0_1] 31 (0, 0)) (by (with_reducible repeat (first | refine blk_drewN ?_ _ | refine blk_drew ?_ | refine blk_alloc ?_ _)); refine blk_far ?_ NB401_408.out _; (with_reducible repeat (first | refine blk_drewN ?_ _ | refine blk_drew ?_ | refine blk_alloc ?_ _)); refine blk_far ?_ NB401_408.out _; (with_reducible repeat (first | refine blk_drewN ?_ _ | refine blk_drew ?_ | refine blk_alloc ?_ _)); refine blk_far ?_ NB401_408.out _; (with_reducible repeat (first | refine blk_drewN ?_ _ | refine blk_drew ?_ | refine blk_alloc ?_ _)); refine blk_far ?_ NB401_408.out _; (with_reducible repeat (first | refine blk_drewN ?_ _ | refine blk_drew ?_ | refine blk_alloc ?_ _)); refine blk_far ?_ NB401_408.out _; (with_reducible repeat (first | refine blk_drewN ?_ _ | refine blk_drew ?_ | refine blk_alloc ?_ _)); refine blk_far ?_ NB401_408.out _; (with_reducible repeat (first | refine blk_drewN ?_ _ | refine blk_drew ?_ | refine blk_alloc ?_ _)); refine blk_far ?_ NB401_408.out _; (with_reducible repeat (first | refine blk_drewN ?_ _ | refine blk_drew ?_ | refine blk_alloc ?_ _)); refine blk_far ?_ NB401_408.out _; (with_reducible repeat (first | refine blk_drewN ?_ _ | refine blk_drew ?_ | refine blk_alloc ?_ _)); exact BK401.out) hb); have n1_ := Aside0.mk (blk_below (g := gb404) (o := .cells #[.int .i64 ((rd_T46 l0_1 0).f0), .int .i64 ((rd_T46 l0_1 0).f1), .slice A403_2 ((rd_T46 l0_1 0).f2).length c403_2, .int .i64 ((rd_T46 l0_1 0).f3), .int .i64 ((rd_T46 l0_1 0).f4), .slice A403_5 ((rd_T46 l0_1 0).f5).length c403_5, .slice A403_6 ((rd_T46 l0_1 0).f6).length c403_6, .slice A403_7 ((rd_T46 l0_1 0).f7).length c403_7] 46 (0, 0)) (by (with_reducible repeat (first | refine blk_drewN ?_ _ | refine blk_drew ?_ | refine blk_alloc ?_ _)); refine blk_far ?_ NB404_408.out _; (with_reducible repeat (first | refine blk_drewN ?_ _ | refine blk_drew ?_ | refine blk_alloc ?_ _)); refine blk_far ?_ NB404_408.out _; (with_reducible repeat (first | refine blk_drewN ?_ _ | refine blk_drew ?_ | refine blk_alloc ?_ _)); refine blk_far ?_ NB404_408.out _; (with_reducible repeat (first | refine blk_drewN ?_ _ | refine blk_drew ?_ | refine blk_alloc ?_ _)); refine blk_far ?_ NB404_408.out _; (with_reducible repeat (first | refine blk_drewN ?_ _ | refine blk_drew ?_ | refine blk_alloc ?_ _)); refine blk_far ?_ NB404_408.out _; (with_reducible repeat (first | refine blk_drewN ?_ _ | refine blk_drew ?_ | refine blk_alloc ?_ _)); refine blk_far ?_ NB404_408.out _; (with_reducible repeat (first | refine blk_drewN ?_ _ | refine blk_drew ?_ | refine blk_alloc ?_ _)); refine blk_far ?_ NB404_408.out _; (with_reducible repeat (first | refine blk_drewN ?_ _ | refine blk_drew ?_ | refine blk_alloc ?_ _)); refine blk_far ?_ NB404_408.out _; (with_reducible repeat (first | refine blk_drewN ?_ _ | refine blk_drew ?_ | refine blk_alloc ?_ _)); exact BK404.out) hb); have n2_ := Aside0.mk (blk_below (g := gb405) (o := wantsO) (by (with_reducible repeat (first | refine blk_drewN ?_ _ | refine blk_drew ?_ | refine blk_alloc ?_ _)); refine obj_far ?_ NB405_408.out _; (with_reducible repeat (first | refine blk_drewN ?_ _ | refine blk_drew ?_ | refine blk_alloc ?_ _)); refine obj_far ?_ NB405_408.out _; (with_reducible repeat (first | refine blk_drewN ?_ _ | refine blk_drew ?_ | refine blk_alloc ?_ _)); refine obj_far ?_ NB405_408.out _; (with_reducible repeat (first | refine blk_drewN ?_ _ | refine blk_drew ?_ | refine blk_alloc ?_ _)); refine obj_far ?_ NB405_408.out _; (with_reducible repeat (first | refine blk_drewN ?_ _ | refine blk_drew ?_ | refine blk_alloc ?_ _)); refine obj_far ?_ NB405_408.out _; (with_reducible repeat (first | refine blk_drewN ?_ _ | refine blk_drew ?_ | refine blk_alloc ?_ _)); refine obj_far ?_ NB405_408.out _; (with_reducible repeat (first | refine blk_drewN ?_ _ | refine blk_drew ?_ | refine blk_alloc ?_ _)); refine obj_far ?_ NB405_408.out _; (with_reducible repeat (first | refine blk_drewN ?_ _ | refine blk_drew ?_ | refine blk_alloc ?_ _)); refine obj_far ?_ NB405_408.out _; (with_reducible repeat (first | refine blk_drewN ?_ _ | refine blk_drew ?_ | refine blk_alloc ?_ _)); exact BK405.out) hb); have n3_ := Aside0.mk (blk_below (g := gb408) (o := .cells #[.int .i64 ((rd_T46 l0_1 x45_3).f0), .int .i64 ((rd_T46 l0_1 x45_3).f1), .slice A407_2 ((rd_T46 l0_1 x45_3).f2).length c407_2, .int .i64 ((rd_T46 l0_1 x45_3).f3), .int .i64 ((rd_T46 l0_1 x45_3).f4), .slice A407_5 ((rd_T46 l0_1 x45_3).f5).length c407_5, .slice A407_6 ((rd_T46 l0_1 x45_3).f6).length c407_6, .slice A407_7 ((rd_T46 l0_1 x45_3).f7).length c407_7] 46 (0, 0)) (by (with_reducible repeat (first | refine blk_drewN ?_ _ | refine blk_drew ?_ | refine blk_alloc ?_ _)); refine blk_put (cs := #[.int .i64 ((rd_T46 l0_1 x45_3).f0), .int .i64 ((rd_T46 l0_1 x45_3).f1), .slice A407_2 ((rd_T46 l0_1 x45_3).f2).length c407_2, .int .i64 ((rd_T46 l0_1 x45_3).f3), .int .i64 ((rd_T46 l0_1 x45_3).f4), .slice A407_5 ((rd_T46 l0_1 x45_3).f5).length c407_5, .slice A407_6 ((rd_T46 l0_1 x45_3).f6).length c407_6, .slice none 0 0]) ?_ 7 _ rfl; (with_reducible repeat (first | refine blk_drewN ?_ _ | refine blk_drew ?_ | refine blk_alloc ?_ _)); refine blk_put (cs := #[.int .i64 ((rd_T46 l0_1 x45_3).f0), .int .i64 ((rd_T46 l0_1 x45_3).f1), .slice A407_2 ((rd_T46 l0_1 x45_3).f2).length c407_2, .int .i64 ((rd_T46 l0_1 x45_3).f3), .int .i64 ((rd_T46 l0_1 x45_3).f4), .slice A407_5 ((rd_T46 l0_1 x45_3).f5).length c407_5, .slice none 0 0, .slice none 0 0]) ?_ 6 _ rfl; (with_reducible repeat (first | refine blk_drewN ?_ _ | refine blk_drew ?_ | refine blk_alloc ?_ _)); refine blk_put (cs := #[.int .i64 ((rd_T46 l0_1 x45_3).f0), .int .i64 ((rd_T46 l0_1 x45_3).f1), .slice A407_2 ((rd_T46 l0_1 x45_3).f2).length c407_2, .int .i64 ((rd_T46 l0_1 x45_3).f3), .int .i64 ((rd_T46 l0_1 x45_3).f4), .slice none 0 0, .slice none 0 0, .slice none 0 0]) ?_ 5 _ rfl; (with_reducible repeat (first | refine blk_drewN ?_ _ | refine blk_drew ?_ | refine blk_alloc ?_ _)); refine blk_put (cs := #[.int .i64 ((rd_T46 l0_1 x45_3).f0), .int .i64 ((rd_T46 l0_1 x45_3).f1), .slice A407_2 ((rd_T46 l0_1 x45_3).f2).length c407_2, .int .i64 ((rd_T46 l0_1 x45_3).f3), .int .i64 0, .slice none 0 0, .slice none 0 0, .slice none 0 0]) ?_ 4 _ rfl; (with_reducible repeat (first | refine blk_drewN ?_ _ | refine blk_drew ?_ | refine blk_alloc ?_ _)); refine blk_put (cs := #[.int .i64 ((rd_T46 l0_1 x45_3).f0), .int .i64 ((rd_T46 l0_1 x45_3).f1), .slice A407_2 ((rd_T46 l0_1 x45_3).f2).length c407_2, .int .i64 0, .int .i64 0, .slice none 0 0, .slice none 0 0, .slice none 0 0]) ?_ 3 _ rfl; (with_reducible repeat (first | refine blk_drewN ?_ _ | refine blk_drew ?_ | refine blk_alloc ?_ _)); refine blk_put (cs := #[.int .i64 ((rd_T46 l0_1 x45_3).f0), .int .i64 ((rd_T46 l0_1 x45_3).f1), .slice none 0 0, .int .i64 0, .int .i64 0, .slice none 0 0, .slice none 0 0, .slice none 0 0]) ?_ 2 _ rfl; (with_reducible repeat (first | refine blk_drewN ?_ _ | refine blk_drew ?_ | refine blk_alloc ?_ _)); refine blk_put (cs := #[.int .i64 ((rd_T46 l0_1 x45_3).f0), .int .i64 0, .slice none 0 0, .int .i64 0, .int .i64 0, .slice none 0 0, .slice none 0 0, .slice none 0 0]) ?_ 1 _ rfl; (with_reducible repeat (first | refine blk_drewN ?_ _ | refine blk_drew ?_ | refine blk_alloc ?_ _)); refine blk_put (cs := #[.int .i64 0, .int .i64 0, .slice none 0 0, .int .i64 0, .int .i64 0, .slice none 0 0, .slice none 0 0, .slice none 0 0]) ?_ 0 _ rfl; (with_reducible repeat (first | refine blk_drewN ?_ _ | refine blk_drew ?_ | refine blk_alloc ?_ _)); exact BK408.out) hb); have n4_ := Aside0.mk (below_step (by repeat (first | (with_reducible first | exact HB.out | apply below_alloc | apply pw_below_drewN | apply below_drew1 | refine below_set ?_ GE401.out | refine below_set ?_ GE404.out | refine below_set ?_ GE405.out | refine below_set ?_ GE408.out) | exact HB.out)) hb); clear BK401; clear BK404; clear BK405; clear BK408; clear HB; have BK401 := n0_; have BK404 := n1_; have BK405 := n2_; have BK408 := n3_; have HB := n4_; clear n0_ n1_ n2_ n3_ n4_; (try clear hb); (try clear hb2); (try clear hk); (try clear hi)))
                            go_ret
                            exact ⟨by first | rfl | (simp [errW_none, errW_some] <;> rfl) | (simp [*, errW_none, errW_some] <;> rfl), by repeat (first | (with_reducible first | exact HB.out | apply below_alloc | apply pw_below_drewN | apply below_drew1 | refine below_set ?_ GE401.out | refine below_set ?_ GE404.out | refine below_set ?_ GE405.out | refine below_set ?_ GE408.out) | exact HB.out)⟩
                        · rw [if_neg c37] at H
                          exact absurd H (by simp)
                      · rw [if_neg c36] at H
                        exact absurd H (by simp)
                    · rw [if_neg c35] at H
                      have c35b0 : decide (x45_3 < (l0_1.length : Int)) = false := decide_eq_false c35
                      clear c35
                      replace H := Option.bind_eq_some_iff.mp H
                      obtain ⟨t406, A950, H⟩ := H
                      replace H : (some t406) = some r := H
                      have A95 := Aside0.mk A950
                      clear A950
                      obtain rfl := Option.some.inj H
                      simp only [Option.some.injEq, Prod.mk.injEq] at H
                      obtain ⟨rfl⟩ := H
                      have hnb96 := NB401_404.out
                      have hnc96 := NB404_401.out
                      have hnb97 := NB401_405.out
                      have hnc97 := NB405_401.out
                      have hcz98_0 : wr.cell? ⟨gb401, 0, none⟩ = some (.slice A0_0 l0_0.length c0_0) := (blk_cell BK401.out 0).trans rfl
                      have hcz98_1 : wr.cell? ⟨gb401, 1, none⟩ = some (.slice (some ad403) l0_1.length c0_1) := (blk_cell BK401.out 1).trans rfl
                      have hfz98_0 := blk_frozen BK401.out 0
                      have hfz98_1 := blk_frozen BK401.out 1
                      go_wp2_with (first | ((with_reducible refine gate_callee (f := 25) rfl ?_); refine goesL_ (some 68) rfl rfl Try.func25 (by kernel_rfl) rfl #[.agg #[.slice A0_0 l0_0.length c0_0, .slice (some ad403) l0_1.length c0_1]] rfl (by (try simp only [List.map_toArray, List.map_cons, List.map_nil]); first | done | rfl | (simp only [List.length_drop, List.length_take]; rfl)) ?_; (with_reducible refine (impl_agree.calls k3 _ _ l0_0 _ _ l0_1 t406 _ ?side1 ?side2 ?side3 ?side4 A95.out).mono ?_); (case side1 => repeat (first | exact (Kd.C_below HR0_0.out HB.out) | (with_reducible refine Kd.C_alloc ?_ _) | (with_reducible refine Kd.C_drewN ?_ _) | (with_reducible refine Kd.C_drew ?_))); (case side2 => exact HC0_0.out); (case side3 => repeat (first | exact (Kd.C_below HR0_1.out HB.out) | (with_reducible refine Kd.C_alloc ?_ _) | (with_reducible refine Kd.C_drewN ?_ _) | (with_reducible refine Kd.C_drew ?_))); (case side4 => exact HC0_1.out); rintro e w99 ⟨rfl, hb⟩; refine ⟨_, rfl, ?_⟩; have n0_ := Aside0.mk (blk_below (g := gb401) (o := .cells #[.slice A0_0 l0_0.length c0_0, .slice (some ad403) l0_1.length c0_1] 31 (0, 0)) (by (with_reducible repeat (first | refine blk_drewN ?_ _ | refine blk_drew ?_ | refine blk_alloc ?_ _)); exact BK401.out) hb); have n1_ := Aside0.mk (blk_below (g := gb404) (o := .cells #[.int .i64 ((rd_T46 l0_1 0).f0), .int .i64 ((rd_T46 l0_1 0).f1), .slice A403_2 ((rd_T46 l0_1 0).f2).length c403_2, .int .i64 ((rd_T46 l0_1 0).f3), .int .i64 ((rd_T46 l0_1 0).f4), .slice A403_5 ((rd_T46 l0_1 0).f5).length c403_5, .slice A403_6 ((rd_T46 l0_1 0).f6).length c403_6, .slice A403_7 ((rd_T46 l0_1 0).f7).length c403_7] 46 (0, 0)) (by (with_reducible repeat (first | refine blk_drewN ?_ _ | refine blk_drew ?_ | refine blk_alloc ?_ _)); exact BK404.out) hb); have n2_ := Aside0.mk (blk_below (g := gb405) (o := wantsO) (by (with_reducible repeat (first | refine blk_drewN ?_ _ | refine blk_drew ?_ | refine blk_alloc ?_ _)); exact BK405.out) hb); have n3_ := Aside0.mk (below_step (by repeat (first | (with_reducible first | exact HB.out | apply below_alloc | apply pw_below_drewN | apply below_drew1 | refine below_set ?_ GE401.out | refine below_set ?_ GE404.out | refine below_set ?_ GE405.out) | exact HB.out)) hb); clear BK401; clear BK404; clear BK405; clear HB; have BK401 := n0_; have BK404 := n1_; have BK405 := n2_; have HB := n3_; clear n0_ n1_ n2_ n3_; (try clear hb); (try clear hb2); (try clear hk); (try clear hi)))
                      go_ret
                      exact ⟨by first | rfl | (simp [errW_none, errW_some] <;> rfl) | (simp [*, errW_none, errW_some] <;> rfl), by repeat (first | (with_reducible first | exact HB.out | apply below_alloc | apply pw_below_drewN | apply below_drew1 | refine below_set ?_ GE401.out | refine below_set ?_ GE404.out | refine below_set ?_ GE405.out) | exact HB.out)⟩
        · rw [if_neg c16] at H
          exact absurd H (by simp)
end Go.Proofs.Ytedodaifpekahaa.P

end
section

namespace Go.Proofs.Ytedodaifpekahaa.P
open Go.RowKit Go.Proofs.YtedodaifpekahaaW.PrintWords Go.Proofs.YtedodaifpekahaaW.PrintLast Go.Proofs.YtedodaifpekahaaW.PrintMore
attribute [local go_sem] max2_int min2_int max_two min_two max_three min_three max_four min_four
set_option linter.unusedVariables false
set_option linter.unusedSimpArgs false
set_option maxHeartbeats 8000000 in
set_option maxRecDepth 100000 in
theorem laws_eqIntS.calls (k : Nat) (A0 : Option Addr) (c0 : Nat) (l0 : List Int) (A1 : Option Addr) (c1 : Nat) (l1 : List Int) (r : Bool) (w : World) (hr0 : Kd.C (Kd.int .i64) w A0 l0.length l0) (hc0 : l0.length ≤ c0) (hr1 : Kd.C (Kd.int .i64) w A1 l1.length l1) (hc1 : l1.length ≤ c1) (h : laws_eqIntS.f k l0 l1 = some r) :
    Calls Try.prog 65 #[.slice A0 l0.length c0, .slice A1 l1.length c1] w fun e w' => e = .returned (.bool r) ∧ Drawn0 w w' := by
  have HR0 := Aside0.mk hr0
  have HC0 := Aside0.mk hc0
  clear hr0 hc0
  have HR1 := Aside0.mk hr1
  have HC1 := Aside0.mk hc1
  clear hr1 hc1
  have H : (if (l0.length : Int) = (l1.length : Int) then (laws_eqIntS.l0 k l0 l1 0) else (some false)) = some r := h
  clear h
  by_cases c3 : (l0.length : Int) = (l1.length : Int)
  · rw [if_pos c3] at H
    have c3b0 : ((l0.length : Int) == (l1.length : Int)) = true := beq_iff_eq.mpr c3
    have c3b1 : ((l0.length : Int) != (l1.length : Int)) = false := bne_eq_false_iff_eq.mpr c3
    have c3b2 : (l0.length == l1.length) = true := by first | simpa using c3 | (simp at c3 ⊢; omega)
    clear c3
    have H' := Aside0.mk H
    clear H
    go_enter Try.func65, Try.ntmps65
    go_wp2
    repeat (go_quiet (fail); try go_wp2)
    go_loopg [5] k (fun kq v5 w' => ∃ (x5_1 : Int), v5 = .int .i64 x5_1 ∧ Aside0 (laws_eqIntS.l0 kq l0 l1 x5_1 = some r) ∧ Aside0 (kq ≤ k) ∧ Drawn0 w w')
    case atStart => exact ⟨(0), (by first | rfl | (simp; done) | (simp [*]; done)), H', ⟨Nat.le_refl _⟩, by repeat (first | exact Drawn0.refl _ | apply Drawn0.step)⟩
    case round =>
      clear H'
      try clear c1
      try clear p2
      try clear c3
      try clear c3b0
      try clear c3b1
      try clear c3b2
      obtain ⟨x5_1, rfl, HA, HK1, ⟨m1, rfl⟩⟩ := hrel
      cases gk with
      | zero => exact absurd HA.out (by simp [laws_eqIntS.l0])
      | succ k1 =>
        have H := HA.out
        clear HA
        simp only [laws_eqIntS.l0] at H
        by_cases c4 : x5_1 < (l0.length : Int)
        · rw [if_pos c4] at H
          have c4b0 : decide (x5_1 < (l0.length : Int)) = true := decide_eq_true c4
          clear c4
          by_cases c5 : 0 ≤ x5_1
          · rw [if_pos c5] at H
            have c5b0 : decide (0 ≤ x5_1) = true := decide_eq_true c5
            clear c5
            by_cases c6 : x5_1 < (l1.length : Int)
            · rw [if_pos c6] at H
              have c6b0 : decide (x5_1 < (l1.length : Int)) = true := decide_eq_true c6
              clear c6
              by_cases c7 : (rd l0 x5_1) = (rd l1 x5_1)
              · rw [if_pos c7] at H
                have c7b0 : ((rd l0 x5_1) == (rd l1 x5_1)) = true := beq_iff_eq.mpr c7
                have c7b1 : ((rd l0 x5_1) != (rd l1 x5_1)) = false := bne_eq_false_iff_eq.mpr c7
                clear c7
                have H' := Aside0.mk H
                clear H
                have p412 : 0 ≤ (x5_1 : Int) := of_decide_eq_true (by first | (with_reducible assumption) | assumption)
                have q412 : x5_1 < (l0.length : Int) := of_decide_eq_true (by first | (with_reducible assumption) | assumption)
                obtain ⟨ad412, e412, hx412_0⟩ := Kd.at_int HR0.out x5_1 p412 q412
                cases e412
                replace p412 := eq_true p412
                replace q412 := eq_true q412
                have p413 : 0 ≤ (x5_1 : Int) := of_decide_eq_true (by first | (with_reducible assumption) | assumption)
                have q413 : x5_1 < (l1.length : Int) := of_decide_eq_true (by first | (with_reducible assumption) | assumption)
                obtain ⟨ad413, e413, hx413_0⟩ := Kd.at_int HR1.out x5_1 p413 q413
                cases e413
                replace p413 := eq_true p413
                replace q413 := eq_true q413
                go_wp2
                repeat (go_quiet (fail); try go_wp2)
                go_roundg k1
                case measure => have := HK1.out; omega
                case rel => exact ⟨(wrap64 (x5_1 + 1)), (by first | rfl | (simp; done) | (simp [*]; done)), H', ⟨by have := HK1.out; omega⟩, by repeat (first | exact Drawn0.refl _ | apply Drawn0.step)⟩
              · rw [if_neg c7] at H
                have c7b0 : ((rd l0 x5_1) == (rd l1 x5_1)) = false := beq_eq_false_iff_ne.mpr c7
                have c7b1 : ((rd l0 x5_1) != (rd l1 x5_1)) = true := bne_iff_ne.mpr c7
                obtain rfl := Option.some.inj H
                simp only [Option.some.injEq, Prod.mk.injEq] at H
                obtain ⟨rfl⟩ := H
                have p412 : 0 ≤ (x5_1 : Int) := of_decide_eq_true (by first | (with_reducible assumption) | assumption)
                have q412 : x5_1 < (l0.length : Int) := of_decide_eq_true (by first | (with_reducible assumption) | assumption)
                obtain ⟨ad412, e412, hx412_0⟩ := Kd.at_int HR0.out x5_1 p412 q412
                cases e412
                replace p412 := eq_true p412
                replace q412 := eq_true q412
                have p413 : 0 ≤ (x5_1 : Int) := of_decide_eq_true (by first | (with_reducible assumption) | assumption)
                have q413 : x5_1 < (l1.length : Int) := of_decide_eq_true (by first | (with_reducible assumption) | assumption)
                obtain ⟨ad413, e413, hx413_0⟩ := Kd.at_int HR1.out x5_1 p413 q413
                cases e413
                replace p413 := eq_true p413
                replace q413 := eq_true q413
                go_wp2
                repeat (go_quiet (fail); try go_wp2)
                go_ret
                exact ⟨by first | rfl | (simp; done) | (simp [*]; done), by repeat (first | exact Drawn0.refl _ | apply Drawn0.step)⟩
            · rw [if_neg c6] at H
              exact absurd H (by simp)
          · rw [if_neg c5] at H
            exact absurd H (by simp)
        · rw [if_neg c4] at H
          have c4b0 : decide (x5_1 < (l0.length : Int)) = false := decide_eq_false c4
          clear c4
          obtain rfl := Option.some.inj H
          simp only [Option.some.injEq, Prod.mk.injEq] at H
          obtain ⟨rfl⟩ := H
          go_wp2
          repeat (go_quiet (fail); try go_wp2)
          go_ret
          exact ⟨by first | rfl | (simp; done) | (simp [*]; done), by repeat (first | exact Drawn0.refl _ | apply Drawn0.step)⟩
  · rw [if_neg c3] at H
    have c3b0 : ((l0.length : Int) == (l1.length : Int)) = false := beq_eq_false_iff_ne.mpr c3
    have c3b1 : ((l0.length : Int) != (l1.length : Int)) = true := bne_iff_ne.mpr c3
    have c3b2 : (l0.length == l1.length) = false := by first | simpa using c3 | (simp at c3 ⊢; omega)
    obtain rfl := Option.some.inj H
    simp only [Option.some.injEq, Prod.mk.injEq] at H
    obtain ⟨rfl⟩ := H
    go_enter Try.func65, Try.ntmps65
    go_wp2
    repeat (go_quiet (fail); try go_wp2)
    go_ret
    exact ⟨by first | rfl | (simp; done) | (simp [*]; done), by repeat (first | exact Drawn0.refl _ | apply Drawn0.step)⟩
end Go.Proofs.Ytedodaifpekahaa.P

end
section

namespace Go.Proofs.Ytedodaifpekahaa.P
open Go.RowKit Go.Proofs.YtedodaifpekahaaW.PrintWords Go.Proofs.YtedodaifpekahaaW.PrintLast Go.Proofs.YtedodaifpekahaaW.PrintMore
attribute [local go_sem] max2_int min2_int max_two min_two max_three min_three max_four min_four
set_option linter.unusedVariables false
set_option linter.unusedSimpArgs false
set_option maxHeartbeats 8000000 in
set_option maxRecDepth 100000 in
theorem laws_eqClass.calls (k : Nat) (a0_0 : Int) (A0_1 : Option Addr) (c0_1 : Nat) (l0_1 : List Int) (a1_0 : Int) (A1_1 : Option Addr) (c1_1 : Nat) (l1_1 : List Int) (r : Bool) (w : World) (hr0_1 : Kd.C (Kd.int .i64) w A0_1 l0_1.length l0_1) (hc0_1 : l0_1.length ≤ c0_1) (hr1_1 : Kd.C (Kd.int .i64) w A1_1 l1_1.length l1_1) (hc1_1 : l1_1.length ≤ c1_1) (h : laws_eqClass.f k a0_0 l0_1 a1_0 l1_1 = some r) :
    Calls Try.prog 48 #[.agg #[.int .i64 a0_0, .slice A0_1 l0_1.length c0_1], .agg #[.int .i64 a1_0, .slice A1_1 l1_1.length c1_1]] w fun e w' => e = .returned (.bool r) ∧ Below w.heap.size w w' := by
  have hu76 := Try.underlying76
  have HR0_1 := Aside0.mk hr0_1
  have HC0_1 := Aside0.mk hc0_1
  clear hr0_1 hc0_1
  have HR1_1 := Aside0.mk hr1_1
  have HC1_1 := Aside0.mk hc1_1
  clear hr1_1 hc1_1
  have HB := Aside0.mk (Below.refl w.heap.size w)
  have H : (if a0_0 = a1_0 then ((laws_eqIntS.f k l0_1 l1_1).bind fun t416 => (if t416 = true then (some true) else (some false))) else (some false)) = some r := h
  clear h
  by_cases c3 : a0_0 = a1_0
  · rw [if_pos c3] at H
    have c3b0 : (a0_0 == a1_0) = true := beq_iff_eq.mpr c3
    have c3b1 : (a0_0 != a1_0) = false := bne_eq_false_iff_eq.mpr c3
    clear c3
    replace H := Option.bind_eq_some_iff.mp H
    obtain ⟨t416, A40, H⟩ := H
    replace H : (if t416 = true then (some true) else (some false)) = some r := H
    have A4 := Aside0.mk A40
    clear A40
    by_cases c5 : t416 = true
    · subst c5
      have H1 : (some true) = some r := by rw [if_pos rfl] at H; exact H
      clear H
      have H := H1
      clear H1
      obtain rfl := Option.some.inj H
      simp only [Option.some.injEq, Prod.mk.injEq] at H
      obtain ⟨rfl⟩ := H
      go_enter Try.func48, Try.ntmps48
      go_wp2_with (first | ((with_reducible refine gate_dst (N := 2) rfl ?_); refine box_event ?hg (N := 2) ?hd (cs := #[.int .i64 a0_0, .slice A0_1 l0_1.length c0_1]) (t := 76) ?hr ?_; (case hd => rfl); (case hg => rfl); (case hr => first | (go_simp; done) | (go_simp; rfl)); intro gb414 hg w6 hbox hb; have n0_ := Aside0.mk (below_step (by repeat (first | (with_reducible first | exact HB.out | apply below_alloc | apply pw_below_drewN | apply below_drew1) | exact HB.out)) hb); have n1_ := Aside0.mk (hbox); have n2_ := Aside0.mk ((by rw [hg]; exact (below_size (by repeat (first | (with_reducible first | exact HB.out | apply below_alloc | apply pw_below_drewN | apply below_drew1) | exact HB.out))) : w.heap.size ≤ gb414)); have n3_ := Aside0.mk ((by rw [hg]; exact (below_size (by repeat (first | (with_reducible first | exact HB.out | apply below_alloc | apply pw_below_drewN | apply below_drew1) | exact HB.out))) : w.heap.size ≤ gb414)); clear HB; have HB := n0_; have BK414 := n1_; have GW414 := n2_; have GE414 := n3_; clear n0_ n1_ n2_ n3_; clear hb hbox hg) | ((with_reducible refine gate_dst (N := 3) rfl ?_); refine box_event ?hg (N := 3) ?hd (cs := #[.int .i64 a1_0, .slice A1_1 l1_1.length c1_1]) (t := 76) ?hr ?_; (case hd => rfl); (case hg => rfl); (case hr => first | (go_simp; done) | (go_simp; rfl)); intro gb415 hg w7 hbox hb; have n0_ := Aside0.mk (blk_below (g := gb414) (o := .cells #[.int .i64 a0_0, .slice A0_1 l0_1.length c0_1] 76 (0, 0)) (by (with_reducible repeat (first | refine blk_drewN ?_ _ | refine blk_drew ?_ | refine blk_alloc ?_ _)); exact BK414.out) hb); have n1_ := Aside0.mk (below_step (by repeat (first | (with_reducible first | exact HB.out | apply below_alloc | apply pw_below_drewN | apply below_drew1 | refine below_set ?_ GE414.out) | exact HB.out)) hb); have n2_ := Aside0.mk (hbox); have n3_ := Aside0.mk ((by rw [hg]; exact (below_size (by repeat (first | (with_reducible first | exact HB.out | apply below_alloc | apply pw_below_drewN | apply below_drew1 | refine below_set ?_ GE414.out) | exact HB.out))) : w.heap.size ≤ gb415)); have n4_ := Aside0.mk ((by rw [hg]; exact (below_size (by repeat (first | (with_reducible first | exact HB.out | apply below_alloc | apply pw_below_drewN | apply below_drew1 | refine below_set ?_ GE414.out) | exact HB.out))) : w.heap.size ≤ gb415)); have n5_ := Aside0.mk ((by rw [hg]; exact Nat.ne_of_lt (blk_lt (g := gb414) (o := .cells #[.int .i64 a0_0, .slice A0_1 l0_1.length c0_1] 76 (0, 0)) (by (with_reducible repeat (first | refine blk_drewN ?_ _ | refine blk_drew ?_ | refine blk_alloc ?_ _)); exact BK414.out)) : gb414 ≠ gb415)); have n6_ := Aside0.mk ((by rw [hg]; exact Nat.ne_of_gt (blk_lt (g := gb414) (o := .cells #[.int .i64 a0_0, .slice A0_1 l0_1.length c0_1] 76 (0, 0)) (by (with_reducible repeat (first | refine blk_drewN ?_ _ | refine blk_drew ?_ | refine blk_alloc ?_ _)); exact BK414.out)) : gb415 ≠ gb414)); clear BK414; clear HB; have BK414 := n0_; have HB := n1_; have BK415 := n2_; have GW415 := n3_; have GE415 := n4_; have NB414_415 := n5_; have NB415_414 := n6_; clear n0_ n1_ n2_ n3_ n4_ n5_ n6_; clear hb hbox hg; have hnb8 := NB414_415.out; have hnc8 := NB415_414.out; have hcz9_0 : w7.cell? ⟨gb414, 0, none⟩ = some (.int .i64 a0_0) := (blk_cell BK414.out 0).trans rfl; have hcz9_1 : w7.cell? ⟨gb414, 1, none⟩ = some (.slice A0_1 l0_1.length c0_1) := (blk_cell BK414.out 1).trans rfl; have hfz9_0 := blk_frozen BK414.out 0; have hfz9_1 := blk_frozen BK414.out 1; have hcz10_0 : w7.cell? ⟨gb415, 0, none⟩ = some (.int .i64 a1_0) := (blk_cell BK415.out 0).trans rfl; have hcz10_1 : w7.cell? ⟨gb415, 1, none⟩ = some (.slice A1_1 l1_1.length c1_1) := (blk_cell BK415.out 1).trans rfl; have hfz10_0 := blk_frozen BK415.out 0; have hfz10_1 := blk_frozen BK415.out 1) | ((with_reducible refine gate_callee (f := 65) rfl ?_); refine goesL_ (some 14) rfl rfl Try.func65 (by kernel_rfl) rfl #[.slice A0_1 l0_1.length c0_1, .slice A1_1 l1_1.length c1_1] rfl (by (try simp only [List.map_toArray, List.map_cons, List.map_nil]); first | done | rfl | (simp only [List.length_drop, List.length_take]; rfl)) ?_; (with_reducible refine (laws_eqIntS.calls k _ _ l0_1 _ _ l1_1 true _ ?side1 ?side2 ?side3 ?side4 A4.out).mono ?_); (case side1 => repeat (first | exact (Kd.C_below HR0_1.out HB.out) | (with_reducible refine Kd.C_alloc ?_ _) | (with_reducible refine Kd.C_drewN ?_ _) | (with_reducible refine Kd.C_drew ?_))); (case side2 => exact HC0_1.out); (case side3 => repeat (first | exact (Kd.C_below HR1_1.out HB.out) | (with_reducible refine Kd.C_alloc ?_ _) | (with_reducible refine Kd.C_drewN ?_ _) | (with_reducible refine Kd.C_drew ?_))); (case side4 => exact HC1_1.out); rintro e w' ⟨rfl, ⟨nd, rfl⟩⟩; refine ⟨_, rfl, ?_⟩))
      go_ret
      exact ⟨by first | rfl | (simp [errW_none, errW_some] <;> rfl) | (simp [*, errW_none, errW_some] <;> rfl), by repeat (first | (with_reducible first | exact HB.out | apply below_alloc | apply pw_below_drewN | apply below_drew1 | refine below_set ?_ GE414.out | refine below_set ?_ GE415.out) | exact HB.out)⟩
    · replace c5 := Bool.eq_false_iff.mpr c5
      subst c5
      have H1 : (some false) = some r := by rw [if_neg (show ¬ (false = true) by decide)] at H; exact H
      clear H
      have H := H1
      clear H1
      obtain rfl := Option.some.inj H
      simp only [Option.some.injEq, Prod.mk.injEq] at H
      obtain ⟨rfl⟩ := H
      go_enter Try.func48, Try.ntmps48
      go_wp2_with (first | ((with_reducible refine gate_dst (N := 2) rfl ?_); refine box_event ?hg (N := 2) ?hd (cs := #[.int .i64 a0_0, .slice A0_1 l0_1.length c0_1]) (t := 76) ?hr ?_; (case hd => rfl); (case hg => rfl); (case hr => first | (go_simp; done) | (go_simp; rfl)); intro gb414 hg w11 hbox hb; have n0_ := Aside0.mk (below_step (by repeat (first | (with_reducible first | exact HB.out | apply below_alloc | apply pw_below_drewN | apply below_drew1) | exact HB.out)) hb); have n1_ := Aside0.mk (hbox); have n2_ := Aside0.mk ((by rw [hg]; exact (below_size (by repeat (first | (with_reducible first | exact HB.out | apply below_alloc | apply pw_below_drewN | apply below_drew1) | exact HB.out))) : w.heap.size ≤ gb414)); have n3_ := Aside0.mk ((by rw [hg]; exact (below_size (by repeat (first | (with_reducible first | exact HB.out | apply below_alloc | apply pw_below_drewN | apply below_drew1) | exact HB.out))) : w.heap.size ≤ gb414)); clear HB; have HB := n0_; have BK414 := n1_; have GW414 := n2_; have GE414 := n3_; clear n0_ n1_ n2_ n3_; clear hb hbox hg) | ((with_reducible refine gate_dst (N := 3) rfl ?_); refine box_event ?hg (N := 3) ?hd (cs := #[.int .i64 a1_0, .slice A1_1 l1_1.length c1_1]) (t := 76) ?hr ?_; (case hd => rfl); (case hg => rfl); (case hr => first | (go_simp; done) | (go_simp; rfl)); intro gb415 hg w12 hbox hb; have n0_ := Aside0.mk (blk_below (g := gb414) (o := .cells #[.int .i64 a0_0, .slice A0_1 l0_1.length c0_1] 76 (0, 0)) (by (with_reducible repeat (first | refine blk_drewN ?_ _ | refine blk_drew ?_ | refine blk_alloc ?_ _)); exact BK414.out) hb); have n1_ := Aside0.mk (below_step (by repeat (first | (with_reducible first | exact HB.out | apply below_alloc | apply pw_below_drewN | apply below_drew1 | refine below_set ?_ GE414.out) | exact HB.out)) hb); have n2_ := Aside0.mk (hbox); have n3_ := Aside0.mk ((by rw [hg]; exact (below_size (by repeat (first | (with_reducible first | exact HB.out | apply below_alloc | apply pw_below_drewN | apply below_drew1 | refine below_set ?_ GE414.out) | exact HB.out))) : w.heap.size ≤ gb415)); have n4_ := Aside0.mk ((by rw [hg]; exact (below_size (by repeat (first | (with_reducible first | exact HB.out | apply below_alloc | apply pw_below_drewN | apply below_drew1 | refine below_set ?_ GE414.out) | exact HB.out))) : w.heap.size ≤ gb415)); have n5_ := Aside0.mk ((by rw [hg]; exact Nat.ne_of_lt (blk_lt (g := gb414) (o := .cells #[.int .i64 a0_0, .slice A0_1 l0_1.length c0_1] 76 (0, 0)) (by (with_reducible repeat (first | refine blk_drewN ?_ _ | refine blk_drew ?_ | refine blk_alloc ?_ _)); exact BK414.out)) : gb414 ≠ gb415)); have n6_ := Aside0.mk ((by rw [hg]; exact Nat.ne_of_gt (blk_lt (g := gb414) (o := .cells #[.int .i64 a0_0, .slice A0_1 l0_1.length c0_1] 76 (0, 0)) (by (with_reducible repeat (first | refine blk_drewN ?_ _ | refine blk_drew ?_ | refine blk_alloc ?_ _)); exact BK414.out)) : gb415 ≠ gb414)); clear BK414; clear HB; have BK414 := n0_; have HB := n1_; have BK415 := n2_; have GW415 := n3_; have GE415 := n4_; have NB414_415 := n5_; have NB415_414 := n6_; clear n0_ n1_ n2_ n3_ n4_ n5_ n6_; clear hb hbox hg; have hnb13 := NB414_415.out; have hnc13 := NB415_414.out; have hcz14_0 : w12.cell? ⟨gb414, 0, none⟩ = some (.int .i64 a0_0) := (blk_cell BK414.out 0).trans rfl; have hcz14_1 : w12.cell? ⟨gb414, 1, none⟩ = some (.slice A0_1 l0_1.length c0_1) := (blk_cell BK414.out 1).trans rfl; have hfz14_0 := blk_frozen BK414.out 0; have hfz14_1 := blk_frozen BK414.out 1; have hcz15_0 : w12.cell? ⟨gb415, 0, none⟩ = some (.int .i64 a1_0) := (blk_cell BK415.out 0).trans rfl; have hcz15_1 : w12.cell? ⟨gb415, 1, none⟩ = some (.slice A1_1 l1_1.length c1_1) := (blk_cell BK415.out 1).trans rfl; have hfz15_0 := blk_frozen BK415.out 0; have hfz15_1 := blk_frozen BK415.out 1) | ((with_reducible refine gate_callee (f := 65) rfl ?_); refine goesL_ (some 14) rfl rfl Try.func65 (by kernel_rfl) rfl #[.slice A0_1 l0_1.length c0_1, .slice A1_1 l1_1.length c1_1] rfl (by (try simp only [List.map_toArray, List.map_cons, List.map_nil]); first | done | rfl | (simp only [List.length_drop, List.length_take]; rfl)) ?_; (with_reducible refine (laws_eqIntS.calls k _ _ l0_1 _ _ l1_1 false _ ?side1 ?side2 ?side3 ?side4 A4.out).mono ?_); (case side1 => repeat (first | exact (Kd.C_below HR0_1.out HB.out) | (with_reducible refine Kd.C_alloc ?_ _) | (with_reducible refine Kd.C_drewN ?_ _) | (with_reducible refine Kd.C_drew ?_))); (case side2 => exact HC0_1.out); (case side3 => repeat (first | exact (Kd.C_below HR1_1.out HB.out) | (with_reducible refine Kd.C_alloc ?_ _) | (with_reducible refine Kd.C_drewN ?_ _) | (with_reducible refine Kd.C_drew ?_))); (case side4 => exact HC1_1.out); rintro e w' ⟨rfl, ⟨nd, rfl⟩⟩; refine ⟨_, rfl, ?_⟩))
      go_ret
      exact ⟨by first | rfl | (simp [errW_none, errW_some] <;> rfl) | (simp [*, errW_none, errW_some] <;> rfl), by repeat (first | (with_reducible first | exact HB.out | apply below_alloc | apply pw_below_drewN | apply below_drew1 | refine below_set ?_ GE414.out | refine below_set ?_ GE415.out) | exact HB.out)⟩
  · rw [if_neg c3] at H
    have c3b0 : (a0_0 == a1_0) = false := beq_eq_false_iff_ne.mpr c3
    have c3b1 : (a0_0 != a1_0) = true := bne_iff_ne.mpr c3
    obtain rfl := Option.some.inj H
    simp only [Option.some.injEq, Prod.mk.injEq] at H
    obtain ⟨rfl⟩ := H
    go_enter Try.func48, Try.ntmps48
    go_wp2_with (first | ((with_reducible refine gate_dst (N := 2) rfl ?_); refine box_event ?hg (N := 2) ?hd (cs := #[.int .i64 a0_0, .slice A0_1 l0_1.length c0_1]) (t := 76) ?hr ?_; (case hd => rfl); (case hg => rfl); (case hr => first | (go_simp; done) | (go_simp; rfl)); intro gb414 hg w16 hbox hb; have n0_ := Aside0.mk (below_step (by repeat (first | (with_reducible first | exact HB.out | apply below_alloc | apply pw_below_drewN | apply below_drew1) | exact HB.out)) hb); have n1_ := Aside0.mk (hbox); have n2_ := Aside0.mk ((by rw [hg]; exact (below_size (by repeat (first | (with_reducible first | exact HB.out | apply below_alloc | apply pw_below_drewN | apply below_drew1) | exact HB.out))) : w.heap.size ≤ gb414)); have n3_ := Aside0.mk ((by rw [hg]; exact (below_size (by repeat (first | (with_reducible first | exact HB.out | apply below_alloc | apply pw_below_drewN | apply below_drew1) | exact HB.out))) : w.heap.size ≤ gb414)); clear HB; have HB := n0_; have BK414 := n1_; have GW414 := n2_; have GE414 := n3_; clear n0_ n1_ n2_ n3_; clear hb hbox hg) | ((with_reducible refine gate_dst (N := 3) rfl ?_); refine box_event ?hg (N := 3) ?hd (cs := #[.int .i64 a1_0, .slice A1_1 l1_1.length c1_1]) (t := 76) ?hr ?_; (case hd => rfl); (case hg => rfl); (case hr => first | (go_simp; done) | (go_simp; rfl)); intro gb415 hg w17 hbox hb; have n0_ := Aside0.mk (blk_below (g := gb414) (o := .cells #[.int .i64 a0_0, .slice A0_1 l0_1.length c0_1] 76 (0, 0)) (by (with_reducible repeat (first | refine blk_drewN ?_ _ | refine blk_drew ?_ | refine blk_alloc ?_ _)); exact BK414.out) hb); have n1_ := Aside0.mk (below_step (by repeat (first | (with_reducible first | exact HB.out | apply below_alloc | apply pw_below_drewN | apply below_drew1 | refine below_set ?_ GE414.out) | exact HB.out)) hb); have n2_ := Aside0.mk (hbox); have n3_ := Aside0.mk ((by rw [hg]; exact (below_size (by repeat (first | (with_reducible first | exact HB.out | apply below_alloc | apply pw_below_drewN | apply below_drew1 | refine below_set ?_ GE414.out) | exact HB.out))) : w.heap.size ≤ gb415)); have n4_ := Aside0.mk ((by rw [hg]; exact (below_size (by repeat (first | (with_reducible first | exact HB.out | apply below_alloc | apply pw_below_drewN | apply below_drew1 | refine below_set ?_ GE414.out) | exact HB.out))) : w.heap.size ≤ gb415)); have n5_ := Aside0.mk ((by rw [hg]; exact Nat.ne_of_lt (blk_lt (g := gb414) (o := .cells #[.int .i64 a0_0, .slice A0_1 l0_1.length c0_1] 76 (0, 0)) (by (with_reducible repeat (first | refine blk_drewN ?_ _ | refine blk_drew ?_ | refine blk_alloc ?_ _)); exact BK414.out)) : gb414 ≠ gb415)); have n6_ := Aside0.mk ((by rw [hg]; exact Nat.ne_of_gt (blk_lt (g := gb414) (o := .cells #[.int .i64 a0_0, .slice A0_1 l0_1.length c0_1] 76 (0, 0)) (by (with_reducible repeat (first | refine blk_drewN ?_ _ | refine blk_drew ?_ | refine blk_alloc ?_ _)); exact BK414.out)) : gb415 ≠ gb414)); clear BK414; clear HB; have BK414 := n0_; have HB := n1_; have BK415 := n2_; have GW415 := n3_; have GE415 := n4_; have NB414_415 := n5_; have NB415_414 := n6_; clear n0_ n1_ n2_ n3_ n4_ n5_ n6_; clear hb hbox hg; have hnb18 := NB414_415.out; have hnc18 := NB415_414.out; have hcz19_0 : w17.cell? ⟨gb414, 0, none⟩ = some (.int .i64 a0_0) := (blk_cell BK414.out 0).trans rfl; have hcz19_1 : w17.cell? ⟨gb414, 1, none⟩ = some (.slice A0_1 l0_1.length c0_1) := (blk_cell BK414.out 1).trans rfl; have hfz19_0 := blk_frozen BK414.out 0; have hfz19_1 := blk_frozen BK414.out 1; have hcz20_0 : w17.cell? ⟨gb415, 0, none⟩ = some (.int .i64 a1_0) := (blk_cell BK415.out 0).trans rfl; have hcz20_1 : w17.cell? ⟨gb415, 1, none⟩ = some (.slice A1_1 l1_1.length c1_1) := (blk_cell BK415.out 1).trans rfl; have hfz20_0 := blk_frozen BK415.out 0; have hfz20_1 := blk_frozen BK415.out 1))
    go_ret
    exact ⟨by first | rfl | (simp [errW_none, errW_some] <;> rfl) | (simp [*, errW_none, errW_some] <;> rfl), by repeat (first | (with_reducible first | exact HB.out | apply below_alloc | apply pw_below_drewN | apply below_drew1 | refine below_set ?_ GE414.out | refine below_set ?_ GE415.out) | exact HB.out)⟩
end Go.Proofs.Ytedodaifpekahaa.P

end
section

namespace Go.Proofs.Ytedodaifpekahaa.P
open Go.RowKit Go.Proofs.YtedodaifpekahaaW.PrintWords Go.Proofs.YtedodaifpekahaaW.PrintLast Go.Proofs.YtedodaifpekahaaW.PrintMore
attribute [local go_sem] max2_int min2_int max_two min_two max_three min_three max_four min_four
set_option linter.unusedVariables false
set_option linter.unusedSimpArgs false
def laws_eqClassS.T6 : Bool × List (List Nat × List Nat) := (true, [([], []), ([], []), ([0, 1], [0, 1]), ([2], [2]), ([], []), ([], []), ([4, 5], [4, 5]), ([6], [6]), ([3, 7], [3, 7]), ([8], [8])])
def laws_eqClassS.B6 : List Nat := [0, 0, 3, 7, 0, 0, 48, 112, 255, 511]
theorem laws_eqClassS.tab6 : rtab .any (opsOf Try.f26 6) = laws_eqClassS.T6 := by kernel_rfl
theorem laws_eqClassS.bits6 : waitsOk laws_eqClassS.T6.2 laws_eqClassS.B6 = true := by kernel_rfl
set_option maxHeartbeats 8000000 in
set_option maxRecDepth 100000 in
theorem laws_eqClassS.calls (k : Nat) (A0 : Option Addr) (c0 : Nat) (l0 : List (S76)) (A1 : Option Addr) (c1 : Nat) (l1 : List (S76)) (r : Bool) (w : World) (hr0 : Kd.C k76 w A0 l0.length l0) (hc0 : l0.length ≤ c0) (hr1 : Kd.C k76 w A1 l1.length l1) (hc1 : l1.length ≤ c1) (h : laws_eqClassS.f k l0 l1 = some r) :
    Calls Try.prog 26 #[.slice A0 l0.length c0, .slice A1 l1.length c1] w fun e w' => e = .returned (.bool r) ∧ Below w.heap.size w w' := by
  have hu76 := Try.underlying76
  have HR0 := Aside0.mk hr0
  have HC0 := Aside0.mk hc0
  clear hr0 hc0
  have HR1 := Aside0.mk hr1
  have HC1 := Aside0.mk hc1
  clear hr1 hc1
  have HB := Aside0.mk (Below.refl w.heap.size w)
  have H : (if (l0.length : Int) = (l1.length : Int) then (laws_eqClassS.l0 k l0 l1 0) else (some false)) = some r := h
  clear h
  by_cases c3 : (l0.length : Int) = (l1.length : Int)
  · rw [if_pos c3] at H
    have c3b0 : ((l0.length : Int) == (l1.length : Int)) = true := beq_iff_eq.mpr c3
    have c3b1 : ((l0.length : Int) != (l1.length : Int)) = false := bne_eq_false_iff_eq.mpr c3
    have c3b2 : (l0.length == l1.length) = true := by first | simpa using c3 | (simp at c3 ⊢; omega)
    clear c3
    have H' := Aside0.mk H
    clear H
    go_enter Try.func26, Try.ntmps26
    go_wp2
    go_loopg [5] k (fun kq v5 w' => ∃ (x5_1 : Int), v5 = .int .i64 x5_1 ∧ Aside0 (laws_eqClassS.l0 kq l0 l1 x5_1 = some r) ∧ Aside0 (kq ≤ k) ∧ Aside0 (Below w.heap.size w w'))
    case atStart => exact ⟨(0), (by first | rfl | (simp; done) | (simp [*]; done)), H', ⟨Nat.le_refl _⟩, ⟨by repeat (first | (with_reducible first | exact HB.out | apply below_alloc | apply pw_below_drewN | apply below_drew1) | exact HB.out)⟩⟩
    case round =>
      clear H'
      try clear c1
      try clear c2
      try clear p2
      try clear c3
      try clear c3b0
      try clear c3b1
      try clear c3b2
      obtain ⟨x5_1, rfl, HA, HK1, HB⟩ := hrel
      cases gk with
      | zero => exact absurd HA.out (by simp [laws_eqClassS.l0])
      | succ k1 =>
        have H := HA.out
        clear HA
        simp only [laws_eqClassS.l0] at H
        by_cases c4 : x5_1 < (l0.length : Int)
        · rw [if_pos c4] at H
          have c4b0 : decide (x5_1 < (l0.length : Int)) = true := decide_eq_true c4
          clear c4
          by_cases c5 : 0 ≤ x5_1
          · rw [if_pos c5] at H
            have c5b0 : decide (0 ≤ x5_1) = true := decide_eq_true c5
            clear c5
            by_cases c6 : x5_1 < (l1.length : Int)
            · rw [if_pos c6] at H
              have c6b0 : decide (x5_1 < (l1.length : Int)) = true := decide_eq_true c6
              clear c6
              replace H := Option.bind_eq_some_iff.mp H
              obtain ⟨t419, A70, H⟩ := H
              replace H : (if t419 = true then (laws_eqClassS.l0 k1 l0 l1 (wrap64 (x5_1 + 1))) else (some false)) = some r := H
              have A7 := Aside0.mk A70
              clear A70
              by_cases c8 : t419 = true
              · subst c8
                have H1 : (laws_eqClassS.l0 k1 l0 l1 (wrap64 (x5_1 + 1))) = some r := by rw [if_pos rfl] at H; exact H
                clear H
                have H := H1
                clear H1
                have H' := Aside0.mk H
                clear H
                try go_wp2
                have n0_ := Aside0.mk (below_drew1 HB.out)
                clear HB
                have HB := n0_
                clear n0_
                have p417 : 0 ≤ (x5_1 : Int) := of_decide_eq_true (by first | (with_reducible assumption) | assumption)
                have q417 : x5_1 < (l0.length : Int) := of_decide_eq_true (by first | (with_reducible assumption) | assumption)
                obtain ⟨ad417, A417_1, c417_1, e417, hx417_0, hx417_1, hl417_1, hi417_1⟩ := at_T76 HR0.out x5_1 p417 q417
                have hw417_1 := hx417_1
                have hw417_0 := hx417_0
                cases e417
                replace hx417_0 := (HB.out.cell (World.block_lt_of_cell? w _ hx417_0)).trans hx417_0
                replace hx417_1 := (HB.out.cell (World.block_lt_of_cell? w _ hx417_1)).trans hx417_1
                have HR417_1 := Aside0.mk hi417_1
                have HC417_1 := Aside0.mk hl417_1
                clear hi417_1 hl417_1
                replace p417 := eq_true p417
                replace q417 := eq_true q417
                have p418 : 0 ≤ (x5_1 : Int) := of_decide_eq_true (by first | (with_reducible assumption) | assumption)
                have q418 : x5_1 < (l1.length : Int) := of_decide_eq_true (by first | (with_reducible assumption) | assumption)
                obtain ⟨ad418, A418_1, c418_1, e418, hx418_0, hx418_1, hl418_1, hi418_1⟩ := at_T76 HR1.out x5_1 p418 q418
                have hw418_1 := hx418_1
                have hw418_0 := hx418_0
                cases e418
                replace hx418_0 := (HB.out.cell (World.block_lt_of_cell? w _ hx418_0)).trans hx418_0
                replace hx418_1 := (HB.out.cell (World.block_lt_of_cell? w _ hx418_1)).trans hx418_1
                have HR418_1 := Aside0.mk hi418_1
                have HC418_1 := Aside0.mk hl418_1
                clear hi418_1 hl418_1
                replace p418 := eq_true p418
                replace q418 := eq_true q418
                refine start_ (n := 10) (S := fun w' => w'.cell? (ad417.add ((x5_1).toNat * 2)) = some (.int .i64 ((rd_T76 l0 x5_1).f0)) ∧ w'.cell? ⟨(ad417.add ((x5_1).toNat * 2)).block, (ad417.add ((x5_1).toNat * 2)).off + 1, none⟩ = some (.slice A417_1 ((rd_T76 l0 x5_1).f1).length c417_1) ∧ w'.cell? (ad418.add ((x5_1).toNat * 2)) = some (.int .i64 ((rd_T76 l1 x5_1).f0)) ∧ w'.cell? ⟨(ad418.add ((x5_1).toNat * 2)).block, (ad418.add ((x5_1).toNat * 2)).off + 1, none⟩ = some (.slice A418_1 ((rd_T76 l1 x5_1).f1).length c418_1)) (ds := []) #[false, false, false, false, false, false, false, false, false, false] (by kernel_rfl) rfl rfl ⟨((HB.out.cell (World.block_lt_of_cell? w _ hw417_0)).trans hw417_0), ((HB.out.cell (World.block_lt_of_cell? w _ hw417_1)).trans hw417_1), ((HB.out.cell (World.block_lt_of_cell? w _ hw418_0)).trans hw418_0), ((HB.out.cell (World.block_lt_of_cell? w _ hw418_1)).trans hw418_1)⟩ (fun hHeld => ?_); refine with_tabW laws_eqClassS.tab6 laws_eqClassS.bits6 (fun HT_ HW_ => ?_)
                generalize wr.drew = w9 at HB HR417_1 HR418_1 hx417_0 hx417_1 hx418_0 hx418_1 hHeld ⊢
                refine pure_ (i := 0) (N := some 17) (v := ?_) (a' := ?_) #[true, false, false, false, false, false, false, false, false, false] rfl rfl (any_of HT_.out (by kernel_rfl)) (fun _ _ _ h => h) (Or.inl ⟨by rfl, ?_⟩) ?_ ?_
                rotate_left
                · intro w'
                  go_simp
                  with_reducible rfl
                rotate_left
                · simp only [Act.put, List.setIfInBounds_toArray, List.set_cons_zero, List.set_cons_succ, i64_w, i32_w]
                  rfl
                refine pure_ (i := 1) (N := some 18) (v := ?_) (a' := ?_) #[true, true, false, false, false, false, false, false, false, false] rfl rfl (any_of HT_.out (by kernel_rfl)) (fun _ _ _ h => h) (Or.inl ⟨by rfl, ?_⟩) ?_ ?_
                rotate_left
                · intro w'
                  go_simp
                  with_reducible rfl
                rotate_left
                · simp only [Act.put, List.setIfInBounds_toArray, List.set_cons_zero, List.set_cons_succ, i64_w, i32_w]
                  rfl
                refine pure_ (i := 2) (N := some 19) (v := ?_) (a' := ?_) #[true, true, true, false, false, false, false, false, false, false] rfl rfl (any_of HT_.out (by kernel_rfl)) (fun _ _ _ h => h) (Or.inl ⟨by rfl, ?_⟩) ?_ ?_
                rotate_left
                · intro w'
                  go_simp
                  with_reducible rfl
                rotate_left
                · simp only [Act.put, List.setIfInBounds_toArray, List.set_cons_zero, List.set_cons_succ, i64_w, i32_w]
                  rfl
                refine pure_ (i := 4) (N := some 21) (v := ?_) (a' := ?_) #[true, true, true, false, true, false, false, false, false, false] rfl rfl (any_of HT_.out (by kernel_rfl)) (fun _ _ _ h => h) (Or.inl ⟨by rfl, ?_⟩) ?_ ?_
                rotate_left
                · intro w'
                  go_simp
                  with_reducible rfl
                rotate_left
                · simp only [Act.put, List.setIfInBounds_toArray, List.set_cons_zero, List.set_cons_succ, i64_w, i32_w]
                  rfl
                refine pure_ (i := 5) (N := some 22) (v := ?_) (a' := ?_) #[true, true, true, false, true, true, false, false, false, false] rfl rfl (any_of HT_.out (by kernel_rfl)) (fun _ _ _ h => h) (Or.inl ⟨by rfl, ?_⟩) ?_ ?_
                rotate_left
                · intro w'
                  go_simp
                  with_reducible rfl
                rotate_left
                · simp only [Act.put, List.setIfInBounds_toArray, List.set_cons_zero, List.set_cons_succ, i64_w, i32_w]
                  rfl
                refine pure_ (i := 6) (N := some 23) (v := ?_) (a' := ?_) #[true, true, true, false, true, true, true, false, false, false] rfl rfl (any_of HT_.out (by kernel_rfl)) (fun _ _ _ h => h) (Or.inl ⟨by rfl, ?_⟩) ?_ ?_
                rotate_left
                · intro w'
                  go_simp
                  with_reducible rfl
                rotate_left
                · simp only [Act.put, List.setIfInBounds_toArray, List.set_cons_zero, List.set_cons_succ, i64_w, i32_w]
                  rfl
                refine take_ (i := 3) (N := some 20) (v := ?_) (a' := ?_) #[true, true, true, true, true, true, true, false, false, false] rfl rfl (take_ofW HT_.out HW_.out (by kernel_rfl)) (fun _ _ _ h => h) (Or.inl ⟨by rfl, ?_⟩) hHeld ?_ ?_
                rotate_left
                · rintro w' ⟨s0, s1, s2, s3⟩
                  go_simp
                  with_reducible rfl
                rotate_left
                · simp only [Act.put, List.setIfInBounds_toArray, List.set_cons_zero, List.set_cons_succ, i64_w, i32_w]
                  rfl
                refine take_ (i := 7) (N := some 24) (v := ?_) (a' := ?_) #[true, true, true, true, true, true, true, true, false, false] rfl rfl (take_ofW HT_.out HW_.out (by kernel_rfl)) (fun _ _ _ h => h) (Or.inl ⟨by rfl, ?_⟩) hHeld ?_ ?_
                rotate_left
                · rintro w' ⟨s0, s1, s2, s3⟩
                  go_simp
                  with_reducible rfl
                rotate_left
                · simp only [Act.put, List.setIfInBounds_toArray, List.set_cons_zero, List.set_cons_succ, i64_w, i32_w]
                  rfl
                refine one_ (i := 8) (N := some 25) #[true, true, true, true, true, true, true, true, true, false] rfl rfl (one_of HT_.out (by kernel_rfl)) (by decide) (fun K hK => ?_)
                refine goes_ Try.func48 (by kernel_rfl) rfl #[.agg #[.int .i64 ((rd_T76 l0 x5_1).f0), .slice A417_1 ((rd_T76 l0 x5_1).f1).length c417_1], .agg #[.int .i64 ((rd_T76 l1 x5_1).f0), .slice A418_1 ((rd_T76 l1 x5_1).f1).length c418_1]] (by rfl) rfl rfl (by (try simp only [List.map_toArray, List.map_cons, List.map_nil]); first | done | rfl | (simp only [List.length_drop, List.length_take]; rfl)) ?_
                with_reducible refine (laws_eqClass.calls k1 ((rd_T76 l0 x5_1).f0) _ _ ((rd_T76 l0 x5_1).f1) ((rd_T76 l1 x5_1).f0) _ _ ((rd_T76 l1 x5_1).f1) true _ ?side1 ?side2 ?side3 ?side4 A7.out).mono ?_
                (case side1 => repeat (first | exact (Kd.C_below HR417_1.out HB.out) | (with_reducible refine Kd.C_alloc ?_ _) | (with_reducible refine Kd.C_drewN ?_ _) | (with_reducible refine Kd.C_drew ?_)))
                (case side2 => exact HC417_1.out)
                (case side3 => repeat (first | exact (Kd.C_below HR418_1.out HB.out) | (with_reducible refine Kd.C_alloc ?_ _) | (with_reducible refine Kd.C_drewN ?_ _) | (with_reducible refine Kd.C_drew ?_)))
                (case side4 => exact HC418_1.out)
                rintro e w10 ⟨rfl, hb⟩
                refine ⟨_, rfl, ?_⟩
                have n0_ := Aside0.mk (below_step (by repeat (first | (with_reducible first | exact HB.out | apply below_alloc | apply pw_below_drewN | apply below_drew1) | exact HB.out)) hb)
                clear HB
                have HB := n0_
                clear n0_
                (try clear hb)
                (try clear hb2)
                (try clear hk)
                (try clear hi)
                refine hK.out _ _ ⟨((HB.out.cell (World.block_lt_of_cell? w _ hw417_0)).trans hw417_0), ((HB.out.cell (World.block_lt_of_cell? w _ hw417_1)).trans hw417_1), ((HB.out.cell (World.block_lt_of_cell? w _ hw418_0)).trans hw418_0), ((HB.out.cell (World.block_lt_of_cell? w _ hw418_1)).trans hw418_1)⟩ (fun hHeld => ?_)
                clear hK K
                refine norm_ (a' := ?_) ?_ ?_
                rotate_left
                · show Act.put _ (some 25) _ = _
                  simp only [Act.put, List.setIfInBounds_toArray, List.set_cons_zero, List.set_cons_succ, i64_w, i32_w]
                  rfl
                refine pure_ (i := 9) (N := some 26) (v := ?_) (a' := ?_) #[true, true, true, true, true, true, true, true, true, true] rfl rfl (any_of HT_.out (by kernel_rfl)) (fun _ _ _ h => h) (Or.inl ⟨by rfl, ?_⟩) ?_ ?_
                rotate_left
                · intro w'
                  go_simp
                  with_reducible rfl
                rotate_left
                · simp only [Act.put, List.setIfInBounds_toArray, List.set_cons_zero, List.set_cons_succ, i64_w, i32_w]
                  rfl
                refine done_ (done_of HT_.out (by kernel_rfl)) ?_
                try go_wp2
                go_roundg k1
                case measure => have := HK1.out; omega
                case rel => exact ⟨(wrap64 (x5_1 + 1)), (by first | rfl | (simp; done) | (simp [*]; done)), H', ⟨by have := HK1.out; omega⟩, ⟨by repeat (first | (with_reducible first | exact HB.out | apply below_alloc | apply pw_below_drewN | apply below_drew1) | exact HB.out)⟩⟩
              · replace c8 := Bool.eq_false_iff.mpr c8
                subst c8
                have H1 : (some false) = some r := by rw [if_neg (show ¬ (false = true) by decide)] at H; exact H
                clear H
                have H := H1
                clear H1
                obtain rfl := Option.some.inj H
                simp only [Option.some.injEq, Prod.mk.injEq] at H
                obtain ⟨rfl⟩ := H
                try go_wp2
                have n0_ := Aside0.mk (below_drew1 HB.out)
                clear HB
                have HB := n0_
                clear n0_
                have p417 : 0 ≤ (x5_1 : Int) := of_decide_eq_true (by first | (with_reducible assumption) | assumption)
                have q417 : x5_1 < (l0.length : Int) := of_decide_eq_true (by first | (with_reducible assumption) | assumption)
                obtain ⟨ad417, A417_1, c417_1, e417, hx417_0, hx417_1, hl417_1, hi417_1⟩ := at_T76 HR0.out x5_1 p417 q417
                have hw417_1 := hx417_1
                have hw417_0 := hx417_0
                cases e417
                replace hx417_0 := (HB.out.cell (World.block_lt_of_cell? w _ hx417_0)).trans hx417_0
                replace hx417_1 := (HB.out.cell (World.block_lt_of_cell? w _ hx417_1)).trans hx417_1
                have HR417_1 := Aside0.mk hi417_1
                have HC417_1 := Aside0.mk hl417_1
                clear hi417_1 hl417_1
                replace p417 := eq_true p417
                replace q417 := eq_true q417
                have p418 : 0 ≤ (x5_1 : Int) := of_decide_eq_true (by first | (with_reducible assumption) | assumption)
                have q418 : x5_1 < (l1.length : Int) := of_decide_eq_true (by first | (with_reducible assumption) | assumption)
                obtain ⟨ad418, A418_1, c418_1, e418, hx418_0, hx418_1, hl418_1, hi418_1⟩ := at_T76 HR1.out x5_1 p418 q418
                have hw418_1 := hx418_1
                have hw418_0 := hx418_0
                cases e418
                replace hx418_0 := (HB.out.cell (World.block_lt_of_cell? w _ hx418_0)).trans hx418_0
                replace hx418_1 := (HB.out.cell (World.block_lt_of_cell? w _ hx418_1)).trans hx418_1
                have HR418_1 := Aside0.mk hi418_1
                have HC418_1 := Aside0.mk hl418_1
                clear hi418_1 hl418_1
                replace p418 := eq_true p418
                replace q418 := eq_true q418
                refine start_ (n := 10) (S := fun w' => w'.cell? (ad417.add ((x5_1).toNat * 2)) = some (.int .i64 ((rd_T76 l0 x5_1).f0)) ∧ w'.cell? ⟨(ad417.add ((x5_1).toNat * 2)).block, (ad417.add ((x5_1).toNat * 2)).off + 1, none⟩ = some (.slice A417_1 ((rd_T76 l0 x5_1).f1).length c417_1) ∧ w'.cell? (ad418.add ((x5_1).toNat * 2)) = some (.int .i64 ((rd_T76 l1 x5_1).f0)) ∧ w'.cell? ⟨(ad418.add ((x5_1).toNat * 2)).block, (ad418.add ((x5_1).toNat * 2)).off + 1, none⟩ = some (.slice A418_1 ((rd_T76 l1 x5_1).f1).length c418_1)) (ds := []) #[false, false, false, false, false, false, false, false, false, false] (by kernel_rfl) rfl rfl ⟨((HB.out.cell (World.block_lt_of_cell? w _ hw417_0)).trans hw417_0), ((HB.out.cell (World.block_lt_of_cell? w _ hw417_1)).trans hw417_1), ((HB.out.cell (World.block_lt_of_cell? w _ hw418_0)).trans hw418_0), ((HB.out.cell (World.block_lt_of_cell? w _ hw418_1)).trans hw418_1)⟩ (fun hHeld => ?_); refine with_tabW laws_eqClassS.tab6 laws_eqClassS.bits6 (fun HT_ HW_ => ?_)
                generalize wr.drew = w11 at HB HR417_1 HR418_1 hx417_0 hx417_1 hx418_0 hx418_1 hHeld ⊢
                refine pure_ (i := 0) (N := some 17) (v := ?_) (a' := ?_) #[true, false, false, false, false, false, false, false, false, false] rfl rfl (any_of HT_.out (by kernel_rfl)) (fun _ _ _ h => h) (Or.inl ⟨by rfl, ?_⟩) ?_ ?_
                rotate_left
                · intro w'
                  go_simp
                  with_reducible rfl
                rotate_left
                · simp only [Act.put, List.setIfInBounds_toArray, List.set_cons_zero, List.set_cons_succ, i64_w, i32_w]
                  rfl
                refine pure_ (i := 1) (N := some 18) (v := ?_) (a' := ?_) #[true, true, false, false, false, false, false, false, false, false] rfl rfl (any_of HT_.out (by kernel_rfl)) (fun _ _ _ h => h) (Or.inl ⟨by rfl, ?_⟩) ?_ ?_
                rotate_left
                · intro w'
                  go_simp
                  with_reducible rfl
                rotate_left
                · simp only [Act.put, List.setIfInBounds_toArray, List.set_cons_zero, List.set_cons_succ, i64_w, i32_w]
                  rfl
                refine pure_ (i := 2) (N := some 19) (v := ?_) (a' := ?_) #[true, true, true, false, false, false, false, false, false, false] rfl rfl (any_of HT_.out (by kernel_rfl)) (fun _ _ _ h => h) (Or.inl ⟨by rfl, ?_⟩) ?_ ?_
                rotate_left
                · intro w'
                  go_simp
                  with_reducible rfl
                rotate_left
                · simp only [Act.put, List.setIfInBounds_toArray, List.set_cons_zero, List.set_cons_succ, i64_w, i32_w]
                  rfl
                refine pure_ (i := 4) (N := some 21) (v := ?_) (a' := ?_) #[true, true, true, false, true, false, false, false, false, false] rfl rfl (any_of HT_.out (by kernel_rfl)) (fun _ _ _ h => h) (Or.inl ⟨by rfl, ?_⟩) ?_ ?_
                rotate_left
                · intro w'
                  go_simp
                  with_reducible rfl
                rotate_left
                · simp only [Act.put, List.setIfInBounds_toArray, List.set_cons_zero, List.set_cons_succ, i64_w, i32_w]
                  rfl
                refine pure_ (i := 5) (N := some 22) (v := ?_) (a' := ?_) #[true, true, true, false, true, true, false, false, false, false] rfl rfl (any_of HT_.out (by kernel_rfl)) (fun _ _ _ h => h) (Or.inl ⟨by rfl, ?_⟩) ?_ ?_
                rotate_left
                · intro w'
                  go_simp
                  with_reducible rfl
                rotate_left
                · simp only [Act.put, List.setIfInBounds_toArray, List.set_cons_zero, List.set_cons_succ, i64_w, i32_w]
                  rfl
                refine pure_ (i := 6) (N := some 23) (v := ?_) (a' := ?_) #[true, true, true, false, true, true, true, false, false, false] rfl rfl (any_of HT_.out (by kernel_rfl)) (fun _ _ _ h => h) (Or.inl ⟨by rfl, ?_⟩) ?_ ?_
                rotate_left
                · intro w'
                  go_simp
                  with_reducible rfl
                rotate_left
                · simp only [Act.put, List.setIfInBounds_toArray, List.set_cons_zero, List.set_cons_succ, i64_w, i32_w]
                  rfl
                refine take_ (i := 3) (N := some 20) (v := ?_) (a' := ?_) #[true, true, true, true, true, true, true, false, false, false] rfl rfl (take_ofW HT_.out HW_.out (by kernel_rfl)) (fun _ _ _ h => h) (Or.inl ⟨by rfl, ?_⟩) hHeld ?_ ?_
                rotate_left
                · rintro w' ⟨s0, s1, s2, s3⟩
                  go_simp
                  with_reducible rfl
                rotate_left
                · simp only [Act.put, List.setIfInBounds_toArray, List.set_cons_zero, List.set_cons_succ, i64_w, i32_w]
                  rfl
                refine take_ (i := 7) (N := some 24) (v := ?_) (a' := ?_) #[true, true, true, true, true, true, true, true, false, false] rfl rfl (take_ofW HT_.out HW_.out (by kernel_rfl)) (fun _ _ _ h => h) (Or.inl ⟨by rfl, ?_⟩) hHeld ?_ ?_
                rotate_left
                · rintro w' ⟨s0, s1, s2, s3⟩
                  go_simp
                  with_reducible rfl
                rotate_left
                · simp only [Act.put, List.setIfInBounds_toArray, List.set_cons_zero, List.set_cons_succ, i64_w, i32_w]
                  rfl
                refine one_ (i := 8) (N := some 25) #[true, true, true, true, true, true, true, true, true, false] rfl rfl (one_of HT_.out (by kernel_rfl)) (by decide) (fun K hK => ?_)
                refine goes_ Try.func48 (by kernel_rfl) rfl #[.agg #[.int .i64 ((rd_T76 l0 x5_1).f0), .slice A417_1 ((rd_T76 l0 x5_1).f1).length c417_1], .agg #[.int .i64 ((rd_T76 l1 x5_1).f0), .slice A418_1 ((rd_T76 l1 x5_1).f1).length c418_1]] (by rfl) rfl rfl (by (try simp only [List.map_toArray, List.map_cons, List.map_nil]); first | done | rfl | (simp only [List.length_drop, List.length_take]; rfl)) ?_
                with_reducible refine (laws_eqClass.calls k1 ((rd_T76 l0 x5_1).f0) _ _ ((rd_T76 l0 x5_1).f1) ((rd_T76 l1 x5_1).f0) _ _ ((rd_T76 l1 x5_1).f1) false _ ?side1 ?side2 ?side3 ?side4 A7.out).mono ?_
                (case side1 => repeat (first | exact (Kd.C_below HR417_1.out HB.out) | (with_reducible refine Kd.C_alloc ?_ _) | (with_reducible refine Kd.C_drewN ?_ _) | (with_reducible refine Kd.C_drew ?_)))
                (case side2 => exact HC417_1.out)
                (case side3 => repeat (first | exact (Kd.C_below HR418_1.out HB.out) | (with_reducible refine Kd.C_alloc ?_ _) | (with_reducible refine Kd.C_drewN ?_ _) | (with_reducible refine Kd.C_drew ?_)))
                (case side4 => exact HC418_1.out)
                rintro e w12 ⟨rfl, hb⟩
                refine ⟨_, rfl, ?_⟩
                have n0_ := Aside0.mk (below_step (by repeat (first | (with_reducible first | exact HB.out | apply below_alloc | apply pw_below_drewN | apply below_drew1) | exact HB.out)) hb)
                clear HB
                have HB := n0_
                clear n0_
                (try clear hb)
                (try clear hb2)
                (try clear hk)
                (try clear hi)
                refine hK.out _ _ ⟨((HB.out.cell (World.block_lt_of_cell? w _ hw417_0)).trans hw417_0), ((HB.out.cell (World.block_lt_of_cell? w _ hw417_1)).trans hw417_1), ((HB.out.cell (World.block_lt_of_cell? w _ hw418_0)).trans hw418_0), ((HB.out.cell (World.block_lt_of_cell? w _ hw418_1)).trans hw418_1)⟩ (fun hHeld => ?_)
                clear hK K
                refine norm_ (a' := ?_) ?_ ?_
                rotate_left
                · show Act.put _ (some 25) _ = _
                  simp only [Act.put, List.setIfInBounds_toArray, List.set_cons_zero, List.set_cons_succ, i64_w, i32_w]
                  rfl
                refine pure_ (i := 9) (N := some 26) (v := ?_) (a' := ?_) #[true, true, true, true, true, true, true, true, true, true] rfl rfl (any_of HT_.out (by kernel_rfl)) (fun _ _ _ h => h) (Or.inl ⟨by rfl, ?_⟩) ?_ ?_
                rotate_left
                · intro w'
                  go_simp
                  with_reducible rfl
                rotate_left
                · simp only [Act.put, List.setIfInBounds_toArray, List.set_cons_zero, List.set_cons_succ, i64_w, i32_w]
                  rfl
                refine done_ (done_of HT_.out (by kernel_rfl)) ?_
                try go_wp2
                go_ret
                exact ⟨by first | rfl | (simp [errW_none, errW_some] <;> rfl) | (simp [*, errW_none, errW_some] <;> rfl), by repeat (first | (with_reducible first | exact HB.out | apply below_alloc | apply pw_below_drewN | apply below_drew1) | exact HB.out)⟩
            · rw [if_neg c6] at H
              exact absurd H (by simp)
          · rw [if_neg c5] at H
            exact absurd H (by simp)
        · rw [if_neg c4] at H
          have c4b0 : decide (x5_1 < (l0.length : Int)) = false := decide_eq_false c4
          clear c4
          obtain rfl := Option.some.inj H
          simp only [Option.some.injEq, Prod.mk.injEq] at H
          obtain ⟨rfl⟩ := H
          go_wp2
          go_ret
          exact ⟨by first | rfl | (simp [errW_none, errW_some] <;> rfl) | (simp [*, errW_none, errW_some] <;> rfl), by repeat (first | (with_reducible first | exact HB.out | apply below_alloc | apply pw_below_drewN | apply below_drew1) | exact HB.out)⟩
  · rw [if_neg c3] at H
    have c3b0 : ((l0.length : Int) == (l1.length : Int)) = false := beq_eq_false_iff_ne.mpr c3
    have c3b1 : ((l0.length : Int) != (l1.length : Int)) = true := bne_iff_ne.mpr c3
    have c3b2 : (l0.length == l1.length) = false := by first | simpa using c3 | (simp at c3 ⊢; omega)
    obtain rfl := Option.some.inj H
    simp only [Option.some.injEq, Prod.mk.injEq] at H
    obtain ⟨rfl⟩ := H
    go_enter Try.func26, Try.ntmps26
    go_wp2
    go_ret
    exact ⟨by first | rfl | (simp [errW_none, errW_some] <;> rfl) | (simp [*, errW_none, errW_some] <;> rfl), by repeat (first | (with_reducible first | exact HB.out | apply below_alloc | apply pw_below_drewN | apply below_drew1) | exact HB.out)⟩
end Go.Proofs.Ytedodaifpekahaa.P

end
section

namespace Go.Proofs.Ytedodaifpekahaa.P
open Go.RowKit Go.Proofs.YtedodaifpekahaaW.PrintWords Go.Proofs.YtedodaifpekahaaW.PrintLast Go.Proofs.YtedodaifpekahaaW.PrintMore
attribute [local go_sem] max2_int min2_int max_two min_two max_three min_three max_four min_four
set_option linter.unusedVariables false
set_option linter.unusedSimpArgs false
set_option maxHeartbeats 8000000 in
set_option maxRecDepth 100000 in
theorem laws_eqIns.calls (a0_0 : Int) (a0_1 : Int) (a0_2 : Int) (a1_0 : Int) (a1_1 : Int) (a1_2 : Int) (r : Bool) (w : World) (h : laws_eqIns.f a0_0 a0_1 a0_2 a1_0 a1_1 a1_2 = some r) :
    Calls Try.prog 73 #[.agg #[.int .i64 a0_0, .int .i64 a0_1, .int .i64 a0_2], .agg #[.int .i64 a1_0, .int .i64 a1_1, .int .i64 a1_2]] w fun e w' => e = .returned (.bool r) ∧ Below w.heap.size w w' := by
  have hu67 := Try.underlying67
  have HB := Aside0.mk (Below.refl w.heap.size w)
  have H : (if a0_0 = a1_0 then (if a0_1 = a1_1 then (if a0_2 = a1_2 then (some true) else (some false)) else (some false)) else (some false)) = some r := h
  clear h
  by_cases c3 : a0_0 = a1_0
  · rw [if_pos c3] at H
    have c3b0 : (a0_0 == a1_0) = true := beq_iff_eq.mpr c3
    have c3b1 : (a0_0 != a1_0) = false := bne_eq_false_iff_eq.mpr c3
    clear c3
    by_cases c4 : a0_1 = a1_1
    · rw [if_pos c4] at H
      have c4b0 : (a0_1 == a1_1) = true := beq_iff_eq.mpr c4
      have c4b1 : (a0_1 != a1_1) = false := bne_eq_false_iff_eq.mpr c4
      clear c4
      by_cases c5 : a0_2 = a1_2
      · rw [if_pos c5] at H
        have c5b0 : (a0_2 == a1_2) = true := beq_iff_eq.mpr c5
        have c5b1 : (a0_2 != a1_2) = false := bne_eq_false_iff_eq.mpr c5
        clear c5
        obtain rfl := Option.some.inj H
        simp only [Option.some.injEq, Prod.mk.injEq] at H
        obtain ⟨rfl⟩ := H
        go_enter Try.func73, Try.ntmps73
        go_wp2_with (first | ((with_reducible refine gate_dst (N := 2) rfl ?_); refine box_event ?hg (N := 2) ?hd (cs := #[.int .i64 a0_0, .int .i64 a0_1, .int .i64 a0_2]) (t := 67) ?hr ?_; (case hd => rfl); (case hg => rfl); (case hr => first | (go_simp; done) | (go_simp; rfl)); intro gb420 hg w6 hbox hb; have n0_ := Aside0.mk (below_step (by repeat (first | (with_reducible first | exact HB.out | apply below_alloc | apply pw_below_drewN | apply below_drew1) | exact HB.out)) hb); have n1_ := Aside0.mk (hbox); have n2_ := Aside0.mk ((by rw [hg]; exact (below_size (by repeat (first | (with_reducible first | exact HB.out | apply below_alloc | apply pw_below_drewN | apply below_drew1) | exact HB.out))) : w.heap.size ≤ gb420)); have n3_ := Aside0.mk ((by rw [hg]; exact (below_size (by repeat (first | (with_reducible first | exact HB.out | apply below_alloc | apply pw_below_drewN | apply below_drew1) | exact HB.out))) : w.heap.size ≤ gb420)); clear HB; have HB := n0_; have BK420 := n1_; have GW420 := n2_; have GE420 := n3_; clear n0_ n1_ n2_ n3_; clear hb hbox hg) | ((with_reducible refine gate_dst (N := 3) rfl ?_); refine box_event ?hg (N := 3) ?hd (cs := #[.int .i64 a1_0, .int .i64 a1_1, .int .i64 a1_2]) (t := 67) ?hr ?_; (case hd => rfl); (case hg => rfl); (case hr => first | (go_simp; done) | (go_simp; rfl)); intro gb421 hg w7 hbox hb; have n0_ := Aside0.mk (blk_below (g := gb420) (o := .cells #[.int .i64 a0_0, .int .i64 a0_1, .int .i64 a0_2] 67 (0, 0)) (by (with_reducible repeat (first | refine blk_drewN ?_ _ | refine blk_drew ?_ | refine blk_alloc ?_ _)); exact BK420.out) hb); have n1_ := Aside0.mk (below_step (by repeat (first | (with_reducible first | exact HB.out | apply below_alloc | apply pw_below_drewN | apply below_drew1 | refine below_set ?_ GE420.out) | exact HB.out)) hb); have n2_ := Aside0.mk (hbox); have n3_ := Aside0.mk ((by rw [hg]; exact (below_size (by repeat (first | (with_reducible first | exact HB.out | apply below_alloc | apply pw_below_drewN | apply below_drew1 | refine below_set ?_ GE420.out) | exact HB.out))) : w.heap.size ≤ gb421)); have n4_ := Aside0.mk ((by rw [hg]; exact (below_size (by repeat (first | (with_reducible first | exact HB.out | apply below_alloc | apply pw_below_drewN | apply below_drew1 | refine below_set ?_ GE420.out) | exact HB.out))) : w.heap.size ≤ gb421)); have n5_ := Aside0.mk ((by rw [hg]; exact Nat.ne_of_lt (blk_lt (g := gb420) (o := .cells #[.int .i64 a0_0, .int .i64 a0_1, .int .i64 a0_2] 67 (0, 0)) (by (with_reducible repeat (first | refine blk_drewN ?_ _ | refine blk_drew ?_ | refine blk_alloc ?_ _)); exact BK420.out)) : gb420 ≠ gb421)); have n6_ := Aside0.mk ((by rw [hg]; exact Nat.ne_of_gt (blk_lt (g := gb420) (o := .cells #[.int .i64 a0_0, .int .i64 a0_1, .int .i64 a0_2] 67 (0, 0)) (by (with_reducible repeat (first | refine blk_drewN ?_ _ | refine blk_drew ?_ | refine blk_alloc ?_ _)); exact BK420.out)) : gb421 ≠ gb420)); clear BK420; clear HB; have BK420 := n0_; have HB := n1_; have BK421 := n2_; have GW421 := n3_; have GE421 := n4_; have NB420_421 := n5_; have NB421_420 := n6_; clear n0_ n1_ n2_ n3_ n4_ n5_ n6_; clear hb hbox hg; have hnb8 := NB420_421.out; have hnc8 := NB421_420.out; have hcz9_0 : w7.cell? ⟨gb420, 0, none⟩ = some (.int .i64 a0_0) := (blk_cell BK420.out 0).trans rfl; have hcz9_1 : w7.cell? ⟨gb420, 1, none⟩ = some (.int .i64 a0_1) := (blk_cell BK420.out 1).trans rfl; have hcz9_2 : w7.cell? ⟨gb420, 2, none⟩ = some (.int .i64 a0_2) := (blk_cell BK420.out 2).trans rfl; have hfz9_0 := blk_frozen BK420.out 0; have hfz9_1 := blk_frozen BK420.out 1; have hfz9_2 := blk_frozen BK420.out 2; have hcz10_0 : w7.cell? ⟨gb421, 0, none⟩ = some (.int .i64 a1_0) := (blk_cell BK421.out 0).trans rfl; have hcz10_1 : w7.cell? ⟨gb421, 1, none⟩ = some (.int .i64 a1_1) := (blk_cell BK421.out 1).trans rfl; have hcz10_2 : w7.cell? ⟨gb421, 2, none⟩ = some (.int .i64 a1_2) := (blk_cell BK421.out 2).trans rfl; have hfz10_0 := blk_frozen BK421.out 0; have hfz10_1 := blk_frozen BK421.out 1; have hfz10_2 := blk_frozen BK421.out 2))
        go_ret
        exact ⟨by first | rfl | (simp [errW_none, errW_some] <;> rfl) | (simp [*, errW_none, errW_some] <;> rfl), by repeat (first | (with_reducible first | exact HB.out | apply below_alloc | apply pw_below_drewN | apply below_drew1 | refine below_set ?_ GE420.out | refine below_set ?_ GE421.out) | exact HB.out)⟩
      · rw [if_neg c5] at H
        have c5b0 : (a0_2 == a1_2) = false := beq_eq_false_iff_ne.mpr c5
        have c5b1 : (a0_2 != a1_2) = true := bne_iff_ne.mpr c5
        obtain rfl := Option.some.inj H
        simp only [Option.some.injEq, Prod.mk.injEq] at H
        obtain ⟨rfl⟩ := H
        go_enter Try.func73, Try.ntmps73
        go_wp2_with (first | ((with_reducible refine gate_dst (N := 2) rfl ?_); refine box_event ?hg (N := 2) ?hd (cs := #[.int .i64 a0_0, .int .i64 a0_1, .int .i64 a0_2]) (t := 67) ?hr ?_; (case hd => rfl); (case hg => rfl); (case hr => first | (go_simp; done) | (go_simp; rfl)); intro gb420 hg w11 hbox hb; have n0_ := Aside0.mk (below_step (by repeat (first | (with_reducible first | exact HB.out | apply below_alloc | apply pw_below_drewN | apply below_drew1) | exact HB.out)) hb); have n1_ := Aside0.mk (hbox); have n2_ := Aside0.mk ((by rw [hg]; exact (below_size (by repeat (first | (with_reducible first | exact HB.out | apply below_alloc | apply pw_below_drewN | apply below_drew1) | exact HB.out))) : w.heap.size ≤ gb420)); have n3_ := Aside0.mk ((by rw [hg]; exact (below_size (by repeat (first | (with_reducible first | exact HB.out | apply below_alloc | apply pw_below_drewN | apply below_drew1) | exact HB.out))) : w.heap.size ≤ gb420)); clear HB; have HB := n0_; have BK420 := n1_; have GW420 := n2_; have GE420 := n3_; clear n0_ n1_ n2_ n3_; clear hb hbox hg) | ((with_reducible refine gate_dst (N := 3) rfl ?_); refine box_event ?hg (N := 3) ?hd (cs := #[.int .i64 a1_0, .int .i64 a1_1, .int .i64 a1_2]) (t := 67) ?hr ?_; (case hd => rfl); (case hg => rfl); (case hr => first | (go_simp; done) | (go_simp; rfl)); intro gb421 hg w12 hbox hb; have n0_ := Aside0.mk (blk_below (g := gb420) (o := .cells #[.int .i64 a0_0, .int .i64 a0_1, .int .i64 a0_2] 67 (0, 0)) (by (with_reducible repeat (first | refine blk_drewN ?_ _ | refine blk_drew ?_ | refine blk_alloc ?_ _)); exact BK420.out) hb); have n1_ := Aside0.mk (below_step (by repeat (first | (with_reducible first | exact HB.out | apply below_alloc | apply pw_below_drewN | apply below_drew1 | refine below_set ?_ GE420.out) | exact HB.out)) hb); have n2_ := Aside0.mk (hbox); have n3_ := Aside0.mk ((by rw [hg]; exact (below_size (by repeat (first | (with_reducible first | exact HB.out | apply below_alloc | apply pw_below_drewN | apply below_drew1 | refine below_set ?_ GE420.out) | exact HB.out))) : w.heap.size ≤ gb421)); have n4_ := Aside0.mk ((by rw [hg]; exact (below_size (by repeat (first | (with_reducible first | exact HB.out | apply below_alloc | apply pw_below_drewN | apply below_drew1 | refine below_set ?_ GE420.out) | exact HB.out))) : w.heap.size ≤ gb421)); have n5_ := Aside0.mk ((by rw [hg]; exact Nat.ne_of_lt (blk_lt (g := gb420) (o := .cells #[.int .i64 a0_0, .int .i64 a0_1, .int .i64 a0_2] 67 (0, 0)) (by (with_reducible repeat (first | refine blk_drewN ?_ _ | refine blk_drew ?_ | refine blk_alloc ?_ _)); exact BK420.out)) : gb420 ≠ gb421)); have n6_ := Aside0.mk ((by rw [hg]; exact Nat.ne_of_gt (blk_lt (g := gb420) (o := .cells #[.int .i64 a0_0, .int .i64 a0_1, .int .i64 a0_2] 67 (0, 0)) (by (with_reducible repeat (first | refine blk_drewN ?_ _ | refine blk_drew ?_ | refine blk_alloc ?_ _)); exact BK420.out)) : gb421 ≠ gb420)); clear BK420; clear HB; have BK420 := n0_; have HB := n1_; have BK421 := n2_; have GW421 := n3_; have GE421 := n4_; have NB420_421 := n5_; have NB421_420 := n6_; clear n0_ n1_ n2_ n3_ n4_ n5_ n6_; clear hb hbox hg; have hnb13 := NB420_421.out; have hnc13 := NB421_420.out; have hcz14_0 : w12.cell? ⟨gb420, 0, none⟩ = some (.int .i64 a0_0) := (blk_cell BK420.out 0).trans rfl; have hcz14_1 : w12.cell? ⟨gb420, 1, none⟩ = some (.int .i64 a0_1) := (blk_cell BK420.out 1).trans rfl; have hcz14_2 : w12.cell? ⟨gb420, 2, none⟩ = some (.int .i64 a0_2) := (blk_cell BK420.out 2).trans rfl; have hfz14_0 := blk_frozen BK420.out 0; have hfz14_1 := blk_frozen BK420.out 1; have hfz14_2 := blk_frozen BK420.out 2; have hcz15_0 : w12.cell? ⟨gb421, 0, none⟩ = some (.int .i64 a1_0) := (blk_cell BK421.out 0).trans rfl; have hcz15_1 : w12.cell? ⟨gb421, 1, none⟩ = some (.int .i64 a1_1) := (blk_cell BK421.out 1).trans rfl; have hcz15_2 : w12.cell? ⟨gb421, 2, none⟩ = some (.int .i64 a1_2) := (blk_cell BK421.out 2).trans rfl; have hfz15_0 := blk_frozen BK421.out 0; have hfz15_1 := blk_frozen BK421.out 1; have hfz15_2 := blk_frozen BK421.out 2))
        go_ret
        exact ⟨by first | rfl | (simp [errW_none, errW_some] <;> rfl) | (simp [*, errW_none, errW_some] <;> rfl), by repeat (first | (with_reducible first | exact HB.out | apply below_alloc | apply pw_below_drewN | apply below_drew1 | refine below_set ?_ GE420.out | refine below_set ?_ GE421.out) | exact HB.out)⟩
    · rw [if_neg c4] at H
      have c4b0 : (a0_1 == a1_1) = false := beq_eq_false_iff_ne.mpr c4
      have c4b1 : (a0_1 != a1_1) = true := bne_iff_ne.mpr c4
      obtain rfl := Option.some.inj H
      simp only [Option.some.injEq, Prod.mk.injEq] at H
      obtain ⟨rfl⟩ := H
      go_enter Try.func73, Try.ntmps73
      go_wp2_with (first | ((with_reducible refine gate_dst (N := 2) rfl ?_); refine box_event ?hg (N := 2) ?hd (cs := #[.int .i64 a0_0, .int .i64 a0_1, .int .i64 a0_2]) (t := 67) ?hr ?_; (case hd => rfl); (case hg => rfl); (case hr => first | (go_simp; done) | (go_simp; rfl)); intro gb420 hg w16 hbox hb; have n0_ := Aside0.mk (below_step (by repeat (first | (with_reducible first | exact HB.out | apply below_alloc | apply pw_below_drewN | apply below_drew1) | exact HB.out)) hb); have n1_ := Aside0.mk (hbox); have n2_ := Aside0.mk ((by rw [hg]; exact (below_size (by repeat (first | (with_reducible first | exact HB.out | apply below_alloc | apply pw_below_drewN | apply below_drew1) | exact HB.out))) : w.heap.size ≤ gb420)); have n3_ := Aside0.mk ((by rw [hg]; exact (below_size (by repeat (first | (with_reducible first | exact HB.out | apply below_alloc | apply pw_below_drewN | apply below_drew1) | exact HB.out))) : w.heap.size ≤ gb420)); clear HB; have HB := n0_; have BK420 := n1_; have GW420 := n2_; have GE420 := n3_; clear n0_ n1_ n2_ n3_; clear hb hbox hg) | ((with_reducible refine gate_dst (N := 3) rfl ?_); refine box_event ?hg (N := 3) ?hd (cs := #[.int .i64 a1_0, .int .i64 a1_1, .int .i64 a1_2]) (t := 67) ?hr ?_; (case hd => rfl); (case hg => rfl); (case hr => first | (go_simp; done) | (go_simp; rfl)); intro gb421 hg w17 hbox hb; have n0_ := Aside0.mk (blk_below (g := gb420) (o := .cells #[.int .i64 a0_0, .int .i64 a0_1, .int .i64 a0_2] 67 (0, 0)) (by (with_reducible repeat (first | refine blk_drewN ?_ _ | refine blk_drew ?_ | refine blk_alloc ?_ _)); exact BK420.out) hb); have n1_ := Aside0.mk (below_step (by repeat (first | (with_reducible first | exact HB.out | apply below_alloc | apply pw_below_drewN | apply below_drew1 | refine below_set ?_ GE420.out) | exact HB.out)) hb); have n2_ := Aside0.mk (hbox); have n3_ := Aside0.mk ((by rw [hg]; exact (below_size (by repeat (first | (with_reducible first | exact HB.out | apply below_alloc | apply pw_below_drewN | apply below_drew1 | refine below_set ?_ GE420.out) | exact HB.out))) : w.heap.size ≤ gb421)); have n4_ := Aside0.mk ((by rw [hg]; exact (below_size (by repeat (first | (with_reducible first | exact HB.out | apply below_alloc | apply pw_below_drewN | apply below_drew1 | refine below_set ?_ GE420.out) | exact HB.out))) : w.heap.size ≤ gb421)); have n5_ := Aside0.mk ((by rw [hg]; exact Nat.ne_of_lt (blk_lt (g := gb420) (o := .cells #[.int .i64 a0_0, .int .i64 a0_1, .int .i64 a0_2] 67 (0, 0)) (by (with_reducible repeat (first | refine blk_drewN ?_ _ | refine blk_drew ?_ | refine blk_alloc ?_ _)); exact BK420.out)) : gb420 ≠ gb421)); have n6_ := Aside0.mk ((by rw [hg]; exact Nat.ne_of_gt (blk_lt (g := gb420) (o := .cells #[.int .i64 a0_0, .int .i64 a0_1, .int .i64 a0_2] 67 (0, 0)) (by (with_reducible repeat (first | refine blk_drewN ?_ _ | refine blk_drew ?_ | refine blk_alloc ?_ _)); exact BK420.out)) : gb421 ≠ gb420)); clear BK420; clear HB; have BK420 := n0_; have HB := n1_; have BK421 := n2_; have GW421 := n3_; have GE421 := n4_; have NB420_421 := n5_; have NB421_420 := n6_; clear n0_ n1_ n2_ n3_ n4_ n5_ n6_; clear hb hbox hg; have hnb18 := NB420_421.out; have hnc18 := NB421_420.out; have hcz19_0 : w17.cell? ⟨gb420, 0, none⟩ = some (.int .i64 a0_0) := (blk_cell BK420.out 0).trans rfl; have hcz19_1 : w17.cell? ⟨gb420, 1, none⟩ = some (.int .i64 a0_1) := (blk_cell BK420.out 1).trans rfl; have hcz19_2 : w17.cell? ⟨gb420, 2, none⟩ = some (.int .i64 a0_2) := (blk_cell BK420.out 2).trans rfl; have hfz19_0 := blk_frozen BK420.out 0; have hfz19_1 := blk_frozen BK420.out 1; have hfz19_2 := blk_frozen BK420.out 2; have hcz20_0 : w17.cell? ⟨gb421, 0, none⟩ = some (.int .i64 a1_0) := (blk_cell BK421.out 0).trans rfl; have hcz20_1 : w17.cell? ⟨gb421, 1, none⟩ = some (.int .i64 a1_1) := (blk_cell BK421.out 1).trans rfl; have hcz20_2 : w17.cell? ⟨gb421, 2, none⟩ = some (.int .i64 a1_2) := (blk_cell BK421.out 2).trans rfl; have hfz20_0 := blk_frozen BK421.out 0; have hfz20_1 := blk_frozen BK421.out 1; have hfz20_2 := blk_frozen BK421.out 2))
      go_ret
      exact ⟨by first | rfl | (simp [errW_none, errW_some] <;> rfl) | (simp [*, errW_none, errW_some] <;> rfl), by repeat (first | (with_reducible first | exact HB.out | apply below_alloc | apply pw_below_drewN | apply below_drew1 | refine below_set ?_ GE420.out | refine below_set ?_ GE421.out) | exact HB.out)⟩
  · rw [if_neg c3] at H
    have c3b0 : (a0_0 == a1_0) = false := beq_eq_false_iff_ne.mpr c3
    have c3b1 : (a0_0 != a1_0) = true := bne_iff_ne.mpr c3
    obtain rfl := Option.some.inj H
    simp only [Option.some.injEq, Prod.mk.injEq] at H
    obtain ⟨rfl⟩ := H
    go_enter Try.func73, Try.ntmps73
    go_wp2_with (first | ((with_reducible refine gate_dst (N := 2) rfl ?_); refine box_event ?hg (N := 2) ?hd (cs := #[.int .i64 a0_0, .int .i64 a0_1, .int .i64 a0_2]) (t := 67) ?hr ?_; (case hd => rfl); (case hg => rfl); (case hr => first | (go_simp; done) | (go_simp; rfl)); intro gb420 hg w21 hbox hb; have n0_ := Aside0.mk (below_step (by repeat (first | (with_reducible first | exact HB.out | apply below_alloc | apply pw_below_drewN | apply below_drew1) | exact HB.out)) hb); have n1_ := Aside0.mk (hbox); have n2_ := Aside0.mk ((by rw [hg]; exact (below_size (by repeat (first | (with_reducible first | exact HB.out | apply below_alloc | apply pw_below_drewN | apply below_drew1) | exact HB.out))) : w.heap.size ≤ gb420)); have n3_ := Aside0.mk ((by rw [hg]; exact (below_size (by repeat (first | (with_reducible first | exact HB.out | apply below_alloc | apply pw_below_drewN | apply below_drew1) | exact HB.out))) : w.heap.size ≤ gb420)); clear HB; have HB := n0_; have BK420 := n1_; have GW420 := n2_; have GE420 := n3_; clear n0_ n1_ n2_ n3_; clear hb hbox hg) | ((with_reducible refine gate_dst (N := 3) rfl ?_); refine box_event ?hg (N := 3) ?hd (cs := #[.int .i64 a1_0, .int .i64 a1_1, .int .i64 a1_2]) (t := 67) ?hr ?_; (case hd => rfl); (case hg => rfl); (case hr => first | (go_simp; done) | (go_simp; rfl)); intro gb421 hg w22 hbox hb; have n0_ := Aside0.mk (blk_below (g := gb420) (o := .cells #[.int .i64 a0_0, .int .i64 a0_1, .int .i64 a0_2] 67 (0, 0)) (by (with_reducible repeat (first | refine blk_drewN ?_ _ | refine blk_drew ?_ | refine blk_alloc ?_ _)); exact BK420.out) hb); have n1_ := Aside0.mk (below_step (by repeat (first | (with_reducible first | exact HB.out | apply below_alloc | apply pw_below_drewN | apply below_drew1 | refine below_set ?_ GE420.out) | exact HB.out)) hb); have n2_ := Aside0.mk (hbox); have n3_ := Aside0.mk ((by rw [hg]; exact (below_size (by repeat (first | (with_reducible first | exact HB.out | apply below_alloc | apply pw_below_drewN | apply below_drew1 | refine below_set ?_ GE420.out) | exact HB.out))) : w.heap.size ≤ gb421)); have n4_ := Aside0.mk ((by rw [hg]; exact (below_size (by repeat (first | (with_reducible first | exact HB.out | apply below_alloc | apply pw_below_drewN | apply below_drew1 | refine below_set ?_ GE420.out) | exact HB.out))) : w.heap.size ≤ gb421)); have n5_ := Aside0.mk ((by rw [hg]; exact Nat.ne_of_lt (blk_lt (g := gb420) (o := .cells #[.int .i64 a0_0, .int .i64 a0_1, .int .i64 a0_2] 67 (0, 0)) (by (with_reducible repeat (first | refine blk_drewN ?_ _ | refine blk_drew ?_ | refine blk_alloc ?_ _)); exact BK420.out)) : gb420 ≠ gb421)); have n6_ := Aside0.mk ((by rw [hg]; exact Nat.ne_of_gt (blk_lt (g := gb420) (o := .cells #[.int .i64 a0_0, .int .i64 a0_1, .int .i64 a0_2] 67 (0, 0)) (by (with_reducible repeat (first | refine blk_drewN ?_ _ | refine blk_drew ?_ | refine blk_alloc ?_ _)); exact BK420.out)) : gb421 ≠ gb420)); clear BK420; clear HB; have BK420 := n0_; have HB := n1_; have BK421 := n2_; have GW421 := n3_; have GE421 := n4_; have NB420_421 := n5_; have NB421_420 := n6_; clear n0_ n1_ n2_ n3_ n4_ n5_ n6_; clear hb hbox hg; have hnb23 := NB420_421.out; have hnc23 := NB421_420.out; have hcz24_0 : w22.cell? ⟨gb420, 0, none⟩ = some (.int .i64 a0_0) := (blk_cell BK420.out 0).trans rfl; have hcz24_1 : w22.cell? ⟨gb420, 1, none⟩ = some (.int .i64 a0_1) := (blk_cell BK420.out 1).trans rfl; have hcz24_2 : w22.cell? ⟨gb420, 2, none⟩ = some (.int .i64 a0_2) := (blk_cell BK420.out 2).trans rfl; have hfz24_0 := blk_frozen BK420.out 0; have hfz24_1 := blk_frozen BK420.out 1; have hfz24_2 := blk_frozen BK420.out 2; have hcz25_0 : w22.cell? ⟨gb421, 0, none⟩ = some (.int .i64 a1_0) := (blk_cell BK421.out 0).trans rfl; have hcz25_1 : w22.cell? ⟨gb421, 1, none⟩ = some (.int .i64 a1_1) := (blk_cell BK421.out 1).trans rfl; have hcz25_2 : w22.cell? ⟨gb421, 2, none⟩ = some (.int .i64 a1_2) := (blk_cell BK421.out 2).trans rfl; have hfz25_0 := blk_frozen BK421.out 0; have hfz25_1 := blk_frozen BK421.out 1; have hfz25_2 := blk_frozen BK421.out 2))
    go_ret
    exact ⟨by first | rfl | (simp [errW_none, errW_some] <;> rfl) | (simp [*, errW_none, errW_some] <;> rfl), by repeat (first | (with_reducible first | exact HB.out | apply below_alloc | apply pw_below_drewN | apply below_drew1 | refine below_set ?_ GE420.out | refine below_set ?_ GE421.out) | exact HB.out)⟩
end Go.Proofs.Ytedodaifpekahaa.P

end
section

namespace Go.Proofs.Ytedodaifpekahaa.P
open Go.RowKit Go.Proofs.YtedodaifpekahaaW.PrintWords Go.Proofs.YtedodaifpekahaaW.PrintLast Go.Proofs.YtedodaifpekahaaW.PrintMore
attribute [local go_sem] max2_int min2_int max_two min_two max_three min_three max_four min_four
set_option linter.unusedVariables false
set_option linter.unusedSimpArgs false
def laws_eqInsS.T6 : Bool × List (List Nat × List Nat) := (true, [([], []), ([], []), ([0, 1], [0, 1]), ([2], [2]), ([], []), ([], []), ([4, 5], [4, 5]), ([6], [6]), ([3, 7], [3, 7]), ([8], [8])])
def laws_eqInsS.B6 : List Nat := [0, 0, 3, 7, 0, 0, 48, 112, 255, 511]
theorem laws_eqInsS.tab6 : rtab .any (opsOf Try.f66 6) = laws_eqInsS.T6 := by kernel_rfl
theorem laws_eqInsS.bits6 : waitsOk laws_eqInsS.T6.2 laws_eqInsS.B6 = true := by kernel_rfl
set_option maxHeartbeats 8000000 in
set_option maxRecDepth 100000 in
theorem laws_eqInsS.calls (k : Nat) (A0 : Option Addr) (c0 : Nat) (l0 : List (S67)) (A1 : Option Addr) (c1 : Nat) (l1 : List (S67)) (r : Bool) (w : World) (hr0 : Kd.C k67 w A0 l0.length l0) (hc0 : l0.length ≤ c0) (hr1 : Kd.C k67 w A1 l1.length l1) (hc1 : l1.length ≤ c1) (h : laws_eqInsS.f k l0 l1 = some r) :
    Calls Try.prog 66 #[.slice A0 l0.length c0, .slice A1 l1.length c1] w fun e w' => e = .returned (.bool r) ∧ Below w.heap.size w w' := by
  have hu67 := Try.underlying67
  have HR0 := Aside0.mk hr0
  have HC0 := Aside0.mk hc0
  clear hr0 hc0
  have HR1 := Aside0.mk hr1
  have HC1 := Aside0.mk hc1
  clear hr1 hc1
  have HB := Aside0.mk (Below.refl w.heap.size w)
  have H : (if (l0.length : Int) = (l1.length : Int) then (laws_eqInsS.l0 k l0 l1 0) else (some false)) = some r := h
  clear h
  by_cases c3 : (l0.length : Int) = (l1.length : Int)
  · rw [if_pos c3] at H
    have c3b0 : ((l0.length : Int) == (l1.length : Int)) = true := beq_iff_eq.mpr c3
    have c3b1 : ((l0.length : Int) != (l1.length : Int)) = false := bne_eq_false_iff_eq.mpr c3
    have c3b2 : (l0.length == l1.length) = true := by first | simpa using c3 | (simp at c3 ⊢; omega)
    clear c3
    have H' := Aside0.mk H
    clear H
    go_enter Try.func66, Try.ntmps66
    go_wp2
    go_loopg [5] k (fun kq v5 w' => ∃ (x5_1 : Int), v5 = .int .i64 x5_1 ∧ Aside0 (laws_eqInsS.l0 kq l0 l1 x5_1 = some r) ∧ Aside0 (kq ≤ k) ∧ Aside0 (Below w.heap.size w w'))
    case atStart => exact ⟨(0), (by first | rfl | (simp; done) | (simp [*]; done)), H', ⟨Nat.le_refl _⟩, ⟨by repeat (first | (with_reducible first | exact HB.out | apply below_alloc | apply pw_below_drewN | apply below_drew1) | exact HB.out)⟩⟩
    case round =>
      clear H'
      try clear c1
      try clear p2
      try clear c3
      try clear c3b0
      try clear c3b1
      try clear c3b2
      obtain ⟨x5_1, rfl, HA, HK1, HB⟩ := hrel
      cases gk with
      | zero => exact absurd HA.out (by simp [laws_eqInsS.l0])
      | succ k1 =>
        have H := HA.out
        clear HA
        simp only [laws_eqInsS.l0] at H
        by_cases c4 : x5_1 < (l0.length : Int)
        · rw [if_pos c4] at H
          have c4b0 : decide (x5_1 < (l0.length : Int)) = true := decide_eq_true c4
          clear c4
          by_cases c5 : 0 ≤ x5_1
          · rw [if_pos c5] at H
            have c5b0 : decide (0 ≤ x5_1) = true := decide_eq_true c5
            clear c5
            by_cases c6 : x5_1 < (l1.length : Int)
            · rw [if_pos c6] at H
              have c6b0 : decide (x5_1 < (l1.length : Int)) = true := decide_eq_true c6
              clear c6
              replace H := Option.bind_eq_some_iff.mp H
              obtain ⟨t424, A70, H⟩ := H
              replace H : (if t424 = true then (laws_eqInsS.l0 k1 l0 l1 (wrap64 (x5_1 + 1))) else (some false)) = some r := H
              have A7 := Aside0.mk A70
              clear A70
              by_cases c8 : t424 = true
              · subst c8
                have H1 : (laws_eqInsS.l0 k1 l0 l1 (wrap64 (x5_1 + 1))) = some r := by rw [if_pos rfl] at H; exact H
                clear H
                have H := H1
                clear H1
                have H' := Aside0.mk H
                clear H
                try go_wp2
                have n0_ := Aside0.mk (below_drew1 HB.out)
                clear HB
                have HB := n0_
                clear n0_
                have p422 : 0 ≤ (x5_1 : Int) := of_decide_eq_true (by first | (with_reducible assumption) | assumption)
                have q422 : x5_1 < (l0.length : Int) := of_decide_eq_true (by first | (with_reducible assumption) | assumption)
                obtain ⟨ad422, e422, hx422_0, hx422_1, hx422_2⟩ := at_T67 HR0.out x5_1 p422 q422
                have hw422_2 := hx422_2
                have hw422_1 := hx422_1
                have hw422_0 := hx422_0
                cases e422
                replace hx422_0 := (HB.out.cell (World.block_lt_of_cell? w _ hx422_0)).trans hx422_0
                replace hx422_1 := (HB.out.cell (World.block_lt_of_cell? w _ hx422_1)).trans hx422_1
                replace hx422_2 := (HB.out.cell (World.block_lt_of_cell? w _ hx422_2)).trans hx422_2
                replace p422 := eq_true p422
                replace q422 := eq_true q422
                have p423 : 0 ≤ (x5_1 : Int) := of_decide_eq_true (by first | (with_reducible assumption) | assumption)
                have q423 : x5_1 < (l1.length : Int) := of_decide_eq_true (by first | (with_reducible assumption) | assumption)
                obtain ⟨ad423, e423, hx423_0, hx423_1, hx423_2⟩ := at_T67 HR1.out x5_1 p423 q423
                have hw423_2 := hx423_2
                have hw423_1 := hx423_1
                have hw423_0 := hx423_0
                cases e423
                replace hx423_0 := (HB.out.cell (World.block_lt_of_cell? w _ hx423_0)).trans hx423_0
                replace hx423_1 := (HB.out.cell (World.block_lt_of_cell? w _ hx423_1)).trans hx423_1
                replace hx423_2 := (HB.out.cell (World.block_lt_of_cell? w _ hx423_2)).trans hx423_2
                replace p423 := eq_true p423
                replace q423 := eq_true q423
                refine start_ (n := 10) (S := fun w' => w'.cell? (ad422.add ((x5_1).toNat * 3)) = some (.int .i64 ((rd_T67 l0 x5_1).f0)) ∧ w'.cell? ⟨(ad422.add ((x5_1).toNat * 3)).block, (ad422.add ((x5_1).toNat * 3)).off + 1, none⟩ = some (.int .i64 ((rd_T67 l0 x5_1).f1)) ∧ w'.cell? ⟨(ad422.add ((x5_1).toNat * 3)).block, (ad422.add ((x5_1).toNat * 3)).off + 2, none⟩ = some (.int .i64 ((rd_T67 l0 x5_1).f2)) ∧ w'.cell? (ad423.add ((x5_1).toNat * 3)) = some (.int .i64 ((rd_T67 l1 x5_1).f0)) ∧ w'.cell? ⟨(ad423.add ((x5_1).toNat * 3)).block, (ad423.add ((x5_1).toNat * 3)).off + 1, none⟩ = some (.int .i64 ((rd_T67 l1 x5_1).f1)) ∧ w'.cell? ⟨(ad423.add ((x5_1).toNat * 3)).block, (ad423.add ((x5_1).toNat * 3)).off + 2, none⟩ = some (.int .i64 ((rd_T67 l1 x5_1).f2))) (ds := []) #[false, false, false, false, false, false, false, false, false, false] (by kernel_rfl) rfl rfl ⟨((HB.out.cell (World.block_lt_of_cell? w _ hw422_0)).trans hw422_0), ((HB.out.cell (World.block_lt_of_cell? w _ hw422_1)).trans hw422_1), ((HB.out.cell (World.block_lt_of_cell? w _ hw422_2)).trans hw422_2), ((HB.out.cell (World.block_lt_of_cell? w _ hw423_0)).trans hw423_0), ((HB.out.cell (World.block_lt_of_cell? w _ hw423_1)).trans hw423_1), ((HB.out.cell (World.block_lt_of_cell? w _ hw423_2)).trans hw423_2)⟩ (fun hHeld => ?_); refine with_tabW laws_eqInsS.tab6 laws_eqInsS.bits6 (fun HT_ HW_ => ?_)
                generalize wr.drew = w9 at HB hx422_0 hx422_1 hx422_2 hx423_0 hx423_1 hx423_2 hHeld ⊢
                refine pure_ (i := 0) (N := some 17) (v := ?_) (a' := ?_) #[true, false, false, false, false, false, false, false, false, false] rfl rfl (any_of HT_.out (by kernel_rfl)) (fun _ _ _ h => h) (Or.inl ⟨by rfl, ?_⟩) ?_ ?_
                rotate_left
                · intro w'
                  go_simp
                  with_reducible rfl
                rotate_left
                · simp only [Act.put, List.setIfInBounds_toArray, List.set_cons_zero, List.set_cons_succ, i64_w, i32_w]
                  rfl
                refine pure_ (i := 1) (N := some 18) (v := ?_) (a' := ?_) #[true, true, false, false, false, false, false, false, false, false] rfl rfl (any_of HT_.out (by kernel_rfl)) (fun _ _ _ h => h) (Or.inl ⟨by rfl, ?_⟩) ?_ ?_
                rotate_left
                · intro w'
                  go_simp
                  with_reducible rfl
                rotate_left
                · simp only [Act.put, List.setIfInBounds_toArray, List.set_cons_zero, List.set_cons_succ, i64_w, i32_w]
                  rfl
                refine pure_ (i := 2) (N := some 19) (v := ?_) (a' := ?_) #[true, true, true, false, false, false, false, false, false, false] rfl rfl (any_of HT_.out (by kernel_rfl)) (fun _ _ _ h => h) (Or.inl ⟨by rfl, ?_⟩) ?_ ?_
                rotate_left
                · intro w'
                  go_simp
                  with_reducible rfl
                rotate_left
                · simp only [Act.put, List.setIfInBounds_toArray, List.set_cons_zero, List.set_cons_succ, i64_w, i32_w]
                  rfl
                refine pure_ (i := 4) (N := some 21) (v := ?_) (a' := ?_) #[true, true, true, false, true, false, false, false, false, false] rfl rfl (any_of HT_.out (by kernel_rfl)) (fun _ _ _ h => h) (Or.inl ⟨by rfl, ?_⟩) ?_ ?_
                rotate_left
                · intro w'
                  go_simp
                  with_reducible rfl
                rotate_left
                · simp only [Act.put, List.setIfInBounds_toArray, List.set_cons_zero, List.set_cons_succ, i64_w, i32_w]
                  rfl
                refine pure_ (i := 5) (N := some 22) (v := ?_) (a' := ?_) #[true, true, true, false, true, true, false, false, false, false] rfl rfl (any_of HT_.out (by kernel_rfl)) (fun _ _ _ h => h) (Or.inl ⟨by rfl, ?_⟩) ?_ ?_
                rotate_left
                · intro w'
                  go_simp
                  with_reducible rfl
                rotate_left
                · simp only [Act.put, List.setIfInBounds_toArray, List.set_cons_zero, List.set_cons_succ, i64_w, i32_w]
                  rfl
                refine pure_ (i := 6) (N := some 23) (v := ?_) (a' := ?_) #[true, true, true, false, true, true, true, false, false, false] rfl rfl (any_of HT_.out (by kernel_rfl)) (fun _ _ _ h => h) (Or.inl ⟨by rfl, ?_⟩) ?_ ?_
                rotate_left
                · intro w'
                  go_simp
                  with_reducible rfl
                rotate_left
                · simp only [Act.put, List.setIfInBounds_toArray, List.set_cons_zero, List.set_cons_succ, i64_w, i32_w]
                  rfl
                refine take_ (i := 3) (N := some 20) (v := ?_) (a' := ?_) #[true, true, true, true, true, true, true, false, false, false] rfl rfl (take_ofW HT_.out HW_.out (by kernel_rfl)) (fun _ _ _ h => h) (Or.inl ⟨by rfl, ?_⟩) hHeld ?_ ?_
                rotate_left
                · rintro w' ⟨s0, s1, s2, s3, s4, s5⟩
                  go_simp
                  with_reducible rfl
                rotate_left
                · simp only [Act.put, List.setIfInBounds_toArray, List.set_cons_zero, List.set_cons_succ, i64_w, i32_w]
                  rfl
                refine take_ (i := 7) (N := some 24) (v := ?_) (a' := ?_) #[true, true, true, true, true, true, true, true, false, false] rfl rfl (take_ofW HT_.out HW_.out (by kernel_rfl)) (fun _ _ _ h => h) (Or.inl ⟨by rfl, ?_⟩) hHeld ?_ ?_
                rotate_left
                · rintro w' ⟨s0, s1, s2, s3, s4, s5⟩
                  go_simp
                  with_reducible rfl
                rotate_left
                · simp only [Act.put, List.setIfInBounds_toArray, List.set_cons_zero, List.set_cons_succ, i64_w, i32_w]
                  rfl
                refine one_ (i := 8) (N := some 25) #[true, true, true, true, true, true, true, true, true, false] rfl rfl (one_of HT_.out (by kernel_rfl)) (by decide) (fun K hK => ?_)
                refine goes_ Try.func73 (by kernel_rfl) rfl #[.agg #[.int .i64 ((rd_T67 l0 x5_1).f0), .int .i64 ((rd_T67 l0 x5_1).f1), .int .i64 ((rd_T67 l0 x5_1).f2)], .agg #[.int .i64 ((rd_T67 l1 x5_1).f0), .int .i64 ((rd_T67 l1 x5_1).f1), .int .i64 ((rd_T67 l1 x5_1).f2)]] (by rfl) rfl rfl (by (try simp only [List.map_toArray, List.map_cons, List.map_nil]); first | done | rfl | (simp only [List.length_drop, List.length_take]; rfl)) ?_
                with_reducible refine (laws_eqIns.calls ((rd_T67 l0 x5_1).f0) ((rd_T67 l0 x5_1).f1) ((rd_T67 l0 x5_1).f2) ((rd_T67 l1 x5_1).f0) ((rd_T67 l1 x5_1).f1) ((rd_T67 l1 x5_1).f2) true _ A7.out).mono ?_
                rintro e w10 ⟨rfl, hb⟩
                refine ⟨_, rfl, ?_⟩
                have n0_ := Aside0.mk (below_step (by repeat (first | (with_reducible first | exact HB.out | apply below_alloc | apply pw_below_drewN | apply below_drew1) | exact HB.out)) hb)
                clear HB
                have HB := n0_
                clear n0_
                (try clear hb)
                (try clear hb2)
                (try clear hk)
                (try clear hi)
                refine hK.out _ _ ⟨((HB.out.cell (World.block_lt_of_cell? w _ hw422_0)).trans hw422_0), ((HB.out.cell (World.block_lt_of_cell? w _ hw422_1)).trans hw422_1), ((HB.out.cell (World.block_lt_of_cell? w _ hw422_2)).trans hw422_2), ((HB.out.cell (World.block_lt_of_cell? w _ hw423_0)).trans hw423_0), ((HB.out.cell (World.block_lt_of_cell? w _ hw423_1)).trans hw423_1), ((HB.out.cell (World.block_lt_of_cell? w _ hw423_2)).trans hw423_2)⟩ (fun hHeld => ?_)
                clear hK K
                refine norm_ (a' := ?_) ?_ ?_
                rotate_left
                · show Act.put _ (some 25) _ = _
                  simp only [Act.put, List.setIfInBounds_toArray, List.set_cons_zero, List.set_cons_succ, i64_w, i32_w]
                  rfl
                refine pure_ (i := 9) (N := some 26) (v := ?_) (a' := ?_) #[true, true, true, true, true, true, true, true, true, true] rfl rfl (any_of HT_.out (by kernel_rfl)) (fun _ _ _ h => h) (Or.inl ⟨by rfl, ?_⟩) ?_ ?_
                rotate_left
                · intro w'
                  go_simp
                  with_reducible rfl
                rotate_left
                · simp only [Act.put, List.setIfInBounds_toArray, List.set_cons_zero, List.set_cons_succ, i64_w, i32_w]
                  rfl
                refine done_ (done_of HT_.out (by kernel_rfl)) ?_
                try go_wp2
                go_roundg k1
                case measure => have := HK1.out; omega
                case rel => exact ⟨(wrap64 (x5_1 + 1)), (by first | rfl | (simp; done) | (simp [*]; done)), H', ⟨by have := HK1.out; omega⟩, ⟨by repeat (first | (with_reducible first | exact HB.out | apply below_alloc | apply pw_below_drewN | apply below_drew1) | exact HB.out)⟩⟩
              · replace c8 := Bool.eq_false_iff.mpr c8
                subst c8
                have H1 : (some false) = some r := by rw [if_neg (show ¬ (false = true) by decide)] at H; exact H
                clear H
                have H := H1
                clear H1
                obtain rfl := Option.some.inj H
                simp only [Option.some.injEq, Prod.mk.injEq] at H
                obtain ⟨rfl⟩ := H
                try go_wp2
                have n0_ := Aside0.mk (below_drew1 HB.out)
                clear HB
                have HB := n0_
                clear n0_
                have p422 : 0 ≤ (x5_1 : Int) := of_decide_eq_true (by first | (with_reducible assumption) | assumption)
                have q422 : x5_1 < (l0.length : Int) := of_decide_eq_true (by first | (with_reducible assumption) | assumption)
                obtain ⟨ad422, e422, hx422_0, hx422_1, hx422_2⟩ := at_T67 HR0.out x5_1 p422 q422
                have hw422_2 := hx422_2
                have hw422_1 := hx422_1
                have hw422_0 := hx422_0
                cases e422
                replace hx422_0 := (HB.out.cell (World.block_lt_of_cell? w _ hx422_0)).trans hx422_0
                replace hx422_1 := (HB.out.cell (World.block_lt_of_cell? w _ hx422_1)).trans hx422_1
                replace hx422_2 := (HB.out.cell (World.block_lt_of_cell? w _ hx422_2)).trans hx422_2
                replace p422 := eq_true p422
                replace q422 := eq_true q422
                have p423 : 0 ≤ (x5_1 : Int) := of_decide_eq_true (by first | (with_reducible assumption) | assumption)
                have q423 : x5_1 < (l1.length : Int) := of_decide_eq_true (by first | (with_reducible assumption) | assumption)
                obtain ⟨ad423, e423, hx423_0, hx423_1, hx423_2⟩ := at_T67 HR1.out x5_1 p423 q423
                have hw423_2 := hx423_2
                have hw423_1 := hx423_1
                have hw423_0 := hx423_0
                cases e423
                replace hx423_0 := (HB.out.cell (World.block_lt_of_cell? w _ hx423_0)).trans hx423_0
                replace hx423_1 := (HB.out.cell (World.block_lt_of_cell? w _ hx423_1)).trans hx423_1
                replace hx423_2 := (HB.out.cell (World.block_lt_of_cell? w _ hx423_2)).trans hx423_2
                replace p423 := eq_true p423
                replace q423 := eq_true q423
                refine start_ (n := 10) (S := fun w' => w'.cell? (ad422.add ((x5_1).toNat * 3)) = some (.int .i64 ((rd_T67 l0 x5_1).f0)) ∧ w'.cell? ⟨(ad422.add ((x5_1).toNat * 3)).block, (ad422.add ((x5_1).toNat * 3)).off + 1, none⟩ = some (.int .i64 ((rd_T67 l0 x5_1).f1)) ∧ w'.cell? ⟨(ad422.add ((x5_1).toNat * 3)).block, (ad422.add ((x5_1).toNat * 3)).off + 2, none⟩ = some (.int .i64 ((rd_T67 l0 x5_1).f2)) ∧ w'.cell? (ad423.add ((x5_1).toNat * 3)) = some (.int .i64 ((rd_T67 l1 x5_1).f0)) ∧ w'.cell? ⟨(ad423.add ((x5_1).toNat * 3)).block, (ad423.add ((x5_1).toNat * 3)).off + 1, none⟩ = some (.int .i64 ((rd_T67 l1 x5_1).f1)) ∧ w'.cell? ⟨(ad423.add ((x5_1).toNat * 3)).block, (ad423.add ((x5_1).toNat * 3)).off + 2, none⟩ = some (.int .i64 ((rd_T67 l1 x5_1).f2))) (ds := []) #[false, false, false, false, false, false, false, false, false, false] (by kernel_rfl) rfl rfl ⟨((HB.out.cell (World.block_lt_of_cell? w _ hw422_0)).trans hw422_0), ((HB.out.cell (World.block_lt_of_cell? w _ hw422_1)).trans hw422_1), ((HB.out.cell (World.block_lt_of_cell? w _ hw422_2)).trans hw422_2), ((HB.out.cell (World.block_lt_of_cell? w _ hw423_0)).trans hw423_0), ((HB.out.cell (World.block_lt_of_cell? w _ hw423_1)).trans hw423_1), ((HB.out.cell (World.block_lt_of_cell? w _ hw423_2)).trans hw423_2)⟩ (fun hHeld => ?_); refine with_tabW laws_eqInsS.tab6 laws_eqInsS.bits6 (fun HT_ HW_ => ?_)
                generalize wr.drew = w11 at HB hx422_0 hx422_1 hx422_2 hx423_0 hx423_1 hx423_2 hHeld ⊢
                refine pure_ (i := 0) (N := some 17) (v := ?_) (a' := ?_) #[true, false, false, false, false, false, false, false, false, false] rfl rfl (any_of HT_.out (by kernel_rfl)) (fun _ _ _ h => h) (Or.inl ⟨by rfl, ?_⟩) ?_ ?_
                rotate_left
                · intro w'
                  go_simp
                  with_reducible rfl
                rotate_left
                · simp only [Act.put, List.setIfInBounds_toArray, List.set_cons_zero, List.set_cons_succ, i64_w, i32_w]
                  rfl
                refine pure_ (i := 1) (N := some 18) (v := ?_) (a' := ?_) #[true, true, false, false, false, false, false, false, false, false] rfl rfl (any_of HT_.out (by kernel_rfl)) (fun _ _ _ h => h) (Or.inl ⟨by rfl, ?_⟩) ?_ ?_
                rotate_left
                · intro w'
                  go_simp
                  with_reducible rfl
                rotate_left
                · simp only [Act.put, List.setIfInBounds_toArray, List.set_cons_zero, List.set_cons_succ, i64_w, i32_w]
                  rfl
                refine pure_ (i := 2) (N := some 19) (v := ?_) (a' := ?_) #[true, true, true, false, false, false, false, false, false, false] rfl rfl (any_of HT_.out (by kernel_rfl)) (fun _ _ _ h => h) (Or.inl ⟨by rfl, ?_⟩) ?_ ?_
                rotate_left
                · intro w'
                  go_simp
                  with_reducible rfl
                rotate_left
                · simp only [Act.put, List.setIfInBounds_toArray, List.set_cons_zero, List.set_cons_succ, i64_w, i32_w]
                  rfl
                refine pure_ (i := 4) (N := some 21) (v := ?_) (a' := ?_) #[true, true, true, false, true, false, false, false, false, false] rfl rfl (any_of HT_.out (by kernel_rfl)) (fun _ _ _ h => h) (Or.inl ⟨by rfl, ?_⟩) ?_ ?_
                rotate_left
                · intro w'
                  go_simp
                  with_reducible rfl
                rotate_left
                · simp only [Act.put, List.setIfInBounds_toArray, List.set_cons_zero, List.set_cons_succ, i64_w, i32_w]
                  rfl
                refine pure_ (i := 5) (N := some 22) (v := ?_) (a' := ?_) #[true, true, true, false, true, true, false, false, false, false] rfl rfl (any_of HT_.out (by kernel_rfl)) (fun _ _ _ h => h) (Or.inl ⟨by rfl, ?_⟩) ?_ ?_
                rotate_left
                · intro w'
                  go_simp
                  with_reducible rfl
                rotate_left
                · simp only [Act.put, List.setIfInBounds_toArray, List.set_cons_zero, List.set_cons_succ, i64_w, i32_w]
                  rfl
                refine pure_ (i := 6) (N := some 23) (v := ?_) (a' := ?_) #[true, true, true, false, true, true, true, false, false, false] rfl rfl (any_of HT_.out (by kernel_rfl)) (fun _ _ _ h => h) (Or.inl ⟨by rfl, ?_⟩) ?_ ?_
                rotate_left
                · intro w'
                  go_simp
                  with_reducible rfl
                rotate_left
                · simp only [Act.put, List.setIfInBounds_toArray, List.set_cons_zero, List.set_cons_succ, i64_w, i32_w]
                  rfl
                refine take_ (i := 3) (N := some 20) (v := ?_) (a' := ?_) #[true, true, true, true, true, true, true, false, false, false] rfl rfl (take_ofW HT_.out HW_.out (by kernel_rfl)) (fun _ _ _ h => h) (Or.inl ⟨by rfl, ?_⟩) hHeld ?_ ?_
                rotate_left
                · rintro w' ⟨s0, s1, s2, s3, s4, s5⟩
                  go_simp
                  with_reducible rfl
                rotate_left
                · simp only [Act.put, List.setIfInBounds_toArray, List.set_cons_zero, List.set_cons_succ, i64_w, i32_w]
                  rfl
                refine take_ (i := 7) (N := some 24) (v := ?_) (a' := ?_) #[true, true, true, true, true, true, true, true, false, false] rfl rfl (take_ofW HT_.out HW_.out (by kernel_rfl)) (fun _ _ _ h => h) (Or.inl ⟨by rfl, ?_⟩) hHeld ?_ ?_
                rotate_left
                · rintro w' ⟨s0, s1, s2, s3, s4, s5⟩
                  go_simp
                  with_reducible rfl
                rotate_left
                · simp only [Act.put, List.setIfInBounds_toArray, List.set_cons_zero, List.set_cons_succ, i64_w, i32_w]
                  rfl
                refine one_ (i := 8) (N := some 25) #[true, true, true, true, true, true, true, true, true, false] rfl rfl (one_of HT_.out (by kernel_rfl)) (by decide) (fun K hK => ?_)
                refine goes_ Try.func73 (by kernel_rfl) rfl #[.agg #[.int .i64 ((rd_T67 l0 x5_1).f0), .int .i64 ((rd_T67 l0 x5_1).f1), .int .i64 ((rd_T67 l0 x5_1).f2)], .agg #[.int .i64 ((rd_T67 l1 x5_1).f0), .int .i64 ((rd_T67 l1 x5_1).f1), .int .i64 ((rd_T67 l1 x5_1).f2)]] (by rfl) rfl rfl (by (try simp only [List.map_toArray, List.map_cons, List.map_nil]); first | done | rfl | (simp only [List.length_drop, List.length_take]; rfl)) ?_
                with_reducible refine (laws_eqIns.calls ((rd_T67 l0 x5_1).f0) ((rd_T67 l0 x5_1).f1) ((rd_T67 l0 x5_1).f2) ((rd_T67 l1 x5_1).f0) ((rd_T67 l1 x5_1).f1) ((rd_T67 l1 x5_1).f2) false _ A7.out).mono ?_
                rintro e w12 ⟨rfl, hb⟩
                refine ⟨_, rfl, ?_⟩
                have n0_ := Aside0.mk (below_step (by repeat (first | (with_reducible first | exact HB.out | apply below_alloc | apply pw_below_drewN | apply below_drew1) | exact HB.out)) hb)
                clear HB
                have HB := n0_
                clear n0_
                (try clear hb)
                (try clear hb2)
                (try clear hk)
                (try clear hi)
                refine hK.out _ _ ⟨((HB.out.cell (World.block_lt_of_cell? w _ hw422_0)).trans hw422_0), ((HB.out.cell (World.block_lt_of_cell? w _ hw422_1)).trans hw422_1), ((HB.out.cell (World.block_lt_of_cell? w _ hw422_2)).trans hw422_2), ((HB.out.cell (World.block_lt_of_cell? w _ hw423_0)).trans hw423_0), ((HB.out.cell (World.block_lt_of_cell? w _ hw423_1)).trans hw423_1), ((HB.out.cell (World.block_lt_of_cell? w _ hw423_2)).trans hw423_2)⟩ (fun hHeld => ?_)
                clear hK K
                refine norm_ (a' := ?_) ?_ ?_
                rotate_left
                · show Act.put _ (some 25) _ = _
                  simp only [Act.put, List.setIfInBounds_toArray, List.set_cons_zero, List.set_cons_succ, i64_w, i32_w]
                  rfl
                refine pure_ (i := 9) (N := some 26) (v := ?_) (a' := ?_) #[true, true, true, true, true, true, true, true, true, true] rfl rfl (any_of HT_.out (by kernel_rfl)) (fun _ _ _ h => h) (Or.inl ⟨by rfl, ?_⟩) ?_ ?_
                rotate_left
                · intro w'
                  go_simp
                  with_reducible rfl
                rotate_left
                · simp only [Act.put, List.setIfInBounds_toArray, List.set_cons_zero, List.set_cons_succ, i64_w, i32_w]
                  rfl
                refine done_ (done_of HT_.out (by kernel_rfl)) ?_
                try go_wp2
                go_ret
                exact ⟨by first | rfl | (simp [errW_none, errW_some] <;> rfl) | (simp [*, errW_none, errW_some] <;> rfl), by repeat (first | (with_reducible first | exact HB.out | apply below_alloc | apply pw_below_drewN | apply below_drew1) | exact HB.out)⟩
            · rw [if_neg c6] at H
              exact absurd H (by simp)
          · rw [if_neg c5] at H
            exact absurd H (by simp)
        · rw [if_neg c4] at H
          have c4b0 : decide (x5_1 < (l0.length : Int)) = false := decide_eq_false c4
          clear c4
          obtain rfl := Option.some.inj H
          simp only [Option.some.injEq, Prod.mk.injEq] at H
          obtain ⟨rfl⟩ := H
          go_wp2
          go_ret
          exact ⟨by first | rfl | (simp [errW_none, errW_some] <;> rfl) | (simp [*, errW_none, errW_some] <;> rfl), by repeat (first | (with_reducible first | exact HB.out | apply below_alloc | apply pw_below_drewN | apply below_drew1) | exact HB.out)⟩
  · rw [if_neg c3] at H
    have c3b0 : ((l0.length : Int) == (l1.length : Int)) = false := beq_eq_false_iff_ne.mpr c3
    have c3b1 : ((l0.length : Int) != (l1.length : Int)) = true := bne_iff_ne.mpr c3
    have c3b2 : (l0.length == l1.length) = false := by first | simpa using c3 | (simp at c3 ⊢; omega)
    obtain rfl := Option.some.inj H
    simp only [Option.some.injEq, Prod.mk.injEq] at H
    obtain ⟨rfl⟩ := H
    go_enter Try.func66, Try.ntmps66
    go_wp2
    go_ret
    exact ⟨by first | rfl | (simp [errW_none, errW_some] <;> rfl) | (simp [*, errW_none, errW_some] <;> rfl), by repeat (first | (with_reducible first | exact HB.out | apply below_alloc | apply pw_below_drewN | apply below_drew1) | exact HB.out)⟩
end Go.Proofs.Ytedodaifpekahaa.P

end
