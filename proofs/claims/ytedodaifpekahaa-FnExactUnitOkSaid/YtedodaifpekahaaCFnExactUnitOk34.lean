/- FnExactUnitOk: for all units (of at most 2^20 values together) the program's UnitOk answers as the reference does and leaves its argument. -/
import Derived.Test.YtedodaifpekahaaCFnExactUnitOk21
import Derived.Test.YtedodaifpekahaaCFnExactUnitOk32
import Derived.Test.YtedodaifpekahaaCFnExactUnitOk33
import Derived.Test.YtedodaifpekahaaCFnExactUnitOk27
import Derived.Test.YtedodaifpekahaaCFnExactUnitOk28
import Derived.Test.YtedodaifpekahaaCFnExactUnitOk20
import Derived.Deep.Slices
import Derived.Lib.SmallJoins
import Derived.DataReads
import Derived.WideShapes
import Derived.Test.YtedodaifpekahaaRows
import Derived.WalkKit
import Derived.ProofKit
import Derived.OpenShut
import Derived.ShutString
import Derived.ChangeOld
import Derived.Below
import Derived.SizedLaws
import Derived.Test.YtedodaifpekahaaCFnExactUnitOk0
import Derived.Test.YtedodaifpekahaaCFnExactUnitOk1
import Derived.Test.YtedodaifpekahaaCFnExactUnitOk2
import Derived.Test.YtedodaifpekahaaCFnExactUnitOk3
import Derived.Test.YtedodaifpekahaaCFnExactUnitOk4
import Derived.Test.YtedodaifpekahaaCFnExactUnitOk5
import Derived.Test.YtedodaifpekahaaCFnExactUnitOk6
import Derived.Test.YtedodaifpekahaaCFnExactUnitOk7
import Derived.Test.YtedodaifpekahaaCFnExactUnitOk8
import Derived.Test.YtedodaifpekahaaCFnExactUnitOk9
import Derived.Test.YtedodaifpekahaaCFnExactUnitOk10
import Derived.Test.YtedodaifpekahaaCFnExactUnitOk11
import Derived.Test.YtedodaifpekahaaCFnExactUnitOk12
import Derived.Test.YtedodaifpekahaaCFnExactUnitOk13
import Derived.Test.YtedodaifpekahaaCFnExactUnitOk14
import Derived.Test.YtedodaifpekahaaCFnExactUnitOk15
import Derived.Test.YtedodaifpekahaaCFnExactUnitOk16
import Derived.Test.YtedodaifpekahaaCFnExactUnitOk17
import Derived.Test.YtedodaifpekahaaCFnExactUnitOk18
import Derived.Test.YtedodaifpekahaaCFnExactUnitOk19
import Derived.Test.YtedodaifpekahaaCFnExactUnitOk22
import Derived.Test.YtedodaifpekahaaCFnExactUnitOk23
import Derived.Test.YtedodaifpekahaaCFnExactUnitOk24
import Derived.Test.YtedodaifpekahaaCFnExactUnitOk25
import Derived.Test.YtedodaifpekahaaCFnExactUnitOk26
import Derived.Test.YtedodaifpekahaaCFnExactUnitOk29
import Derived.Test.YtedodaifpekahaaCFnExactUnitOk30
import Derived.Test.YtedodaifpekahaaCFnExactUnitOk31
section

namespace Go.Proofs.Ytedodaifpekahaa.P
open Go.RowKit Go.Proofs.YtedodaifpekahaaW.PrintWords Go.Proofs.YtedodaifpekahaaW.PrintLast Go.Proofs.YtedodaifpekahaaW.PrintMore
attribute [local go_sem] max2_int min2_int max_two min_two max_three min_three max_four min_four
set_option linter.unusedVariables false
set_option linter.unusedSimpArgs false
set_option maxHeartbeats 8000000 in
set_option maxRecDepth 100000 in
theorem laws_eqUnit.calls (k : Nat) (A0_0 : Option Addr) (c0_0 : Nat) (l0_0 : List (S76)) (A0_1 : Option Addr) (c0_1 : Nat) (l0_1 : List (S46)) (A1_0 : Option Addr) (c1_0 : Nat) (l1_0 : List (S76)) (A1_1 : Option Addr) (c1_1 : Nat) (l1_1 : List (S46)) (r : Bool) (w : World) (hr0_0 : Kd.C k76 w A0_0 l0_0.length l0_0) (hc0_0 : l0_0.length ≤ c0_0) (hr0_1 : Kd.C k46 w A0_1 l0_1.length l0_1) (hc0_1 : l0_1.length ≤ c0_1) (hr1_0 : Kd.C k76 w A1_0 l1_0.length l1_0) (hc1_0 : l1_0.length ≤ c1_0) (hr1_1 : Kd.C k46 w A1_1 l1_1.length l1_1) (hc1_1 : l1_1.length ≤ c1_1) (h : laws_eqUnit.f k l0_0 l0_1 l1_0 l1_1 = some r) :
    Calls Try.prog 9 #[.agg #[.slice A0_0 l0_0.length c0_0, .slice A0_1 l0_1.length c0_1], .agg #[.slice A1_0 l1_0.length c1_0, .slice A1_1 l1_1.length c1_1]] w fun e w' => e = .returned (.bool r) ∧ Below w.heap.size w w' := by
  have hu31 := Try.underlying31
  have HR0_0 := Aside0.mk hr0_0
  have HC0_0 := Aside0.mk hc0_0
  clear hr0_0 hc0_0
  have HR0_1 := Aside0.mk hr0_1
  have HC0_1 := Aside0.mk hc0_1
  clear hr0_1 hc0_1
  have HR1_0 := Aside0.mk hr1_0
  have HC1_0 := Aside0.mk hc1_0
  clear hr1_0 hc1_0
  have HR1_1 := Aside0.mk hr1_1
  have HC1_1 := Aside0.mk hc1_1
  clear hr1_1 hc1_1
  have HB := Aside0.mk (Below.refl w.heap.size w)
  have H : ((laws_eqClassS.f k l0_0 l1_0).bind fun t448 => (if t448 = true then ((laws_eqMethodS.f k l0_1 l1_1).bind fun t449 => (if t449 = true then (some true) else (some false))) else (some false))) = some r := h
  clear h
  replace H := Option.bind_eq_some_iff.mp H
  obtain ⟨t448, A30, H⟩ := H
  replace H : (if t448 = true then ((laws_eqMethodS.f k l0_1 l1_1).bind fun t449 => (if t449 = true then (some true) else (some false))) else (some false)) = some r := H
  have A3 := Aside0.mk A30
  clear A30
  by_cases c4 : t448 = true
  · subst c4
    have H1 : ((laws_eqMethodS.f k l0_1 l1_1).bind fun t449 => (if t449 = true then (some true) else (some false))) = some r := by rw [if_pos rfl] at H; exact H
    clear H
    have H := H1
    clear H1
    replace H := Option.bind_eq_some_iff.mp H
    obtain ⟨t449, A50, H⟩ := H
    replace H : (if t449 = true then (some true) else (some false)) = some r := H
    have A5 := Aside0.mk A50
    clear A50
    by_cases c6 : t449 = true
    · subst c6
      have H1 : (some true) = some r := by rw [if_pos rfl] at H; exact H
      clear H
      have H := H1
      clear H1
      obtain rfl := Option.some.inj H
      simp only [Option.some.injEq, Prod.mk.injEq] at H
      obtain ⟨rfl⟩ := H
      go_enter Try.func9, Try.ntmps9
      go_wp2_with (first | ((with_reducible refine gate_dst (N := 2) rfl ?_); refine box_event ?hg (N := 2) ?hd (cs := #[.slice A0_0 l0_0.length c0_0, .slice A0_1 l0_1.length c0_1]) (t := 31) ?hr ?_; (case hd => rfl); (case hg => rfl); (case hr => first | (go_simp; done) | (go_simp; rfl)); intro gb446 hg w7 hbox hb; have n0_ := Aside0.mk (below_step (by repeat (first | (with_reducible first | exact HB.out | apply below_alloc | apply pw_below_drewN | apply below_drew1) | exact HB.out)) hb); have n1_ := Aside0.mk (hbox); have n2_ := Aside0.mk ((by rw [hg]; exact (below_size (by repeat (first | (with_reducible first | exact HB.out | apply below_alloc | apply pw_below_drewN | apply below_drew1) | exact HB.out))) : w.heap.size ≤ gb446)); have n3_ := Aside0.mk ((by rw [hg]; exact (below_size (by repeat (first | (with_reducible first | exact HB.out | apply below_alloc | apply pw_below_drewN | apply below_drew1) | exact HB.out))) : w.heap.size ≤ gb446)); clear HB; have HB := n0_; have BK446 := n1_; have GW446 := n2_; have GE446 := n3_; clear n0_ n1_ n2_ n3_; clear hb hbox hg) | ((with_reducible refine gate_dst (N := 3) rfl ?_); refine box_event ?hg (N := 3) ?hd (cs := #[.slice A1_0 l1_0.length c1_0, .slice A1_1 l1_1.length c1_1]) (t := 31) ?hr ?_; (case hd => rfl); (case hg => rfl); (case hr => first | (go_simp; done) | (go_simp; rfl)); intro gb447 hg w8 hbox hb; have n0_ := Aside0.mk (blk_below (g := gb446) (o := .cells #[.slice A0_0 l0_0.length c0_0, .slice A0_1 l0_1.length c0_1] 31 (0, 0)) (by (with_reducible repeat (first | refine blk_drewN ?_ _ | refine blk_drew ?_ | refine blk_alloc ?_ _)); exact BK446.out) hb); have n1_ := Aside0.mk (below_step (by repeat (first | (with_reducible first | exact HB.out | apply below_alloc | apply pw_below_drewN | apply below_drew1 | refine below_set ?_ GE446.out) | exact HB.out)) hb); have n2_ := Aside0.mk (hbox); have n3_ := Aside0.mk ((by rw [hg]; exact (below_size (by repeat (first | (with_reducible first | exact HB.out | apply below_alloc | apply pw_below_drewN | apply below_drew1 | refine below_set ?_ GE446.out) | exact HB.out))) : w.heap.size ≤ gb447)); have n4_ := Aside0.mk ((by rw [hg]; exact (below_size (by repeat (first | (with_reducible first | exact HB.out | apply below_alloc | apply pw_below_drewN | apply below_drew1 | refine below_set ?_ GE446.out) | exact HB.out))) : w.heap.size ≤ gb447)); have n5_ := Aside0.mk ((by rw [hg]; exact Nat.ne_of_lt (blk_lt (g := gb446) (o := .cells #[.slice A0_0 l0_0.length c0_0, .slice A0_1 l0_1.length c0_1] 31 (0, 0)) (by (with_reducible repeat (first | refine blk_drewN ?_ _ | refine blk_drew ?_ | refine blk_alloc ?_ _)); exact BK446.out)) : gb446 ≠ gb447)); have n6_ := Aside0.mk ((by rw [hg]; exact Nat.ne_of_gt (blk_lt (g := gb446) (o := .cells #[.slice A0_0 l0_0.length c0_0, .slice A0_1 l0_1.length c0_1] 31 (0, 0)) (by (with_reducible repeat (first | refine blk_drewN ?_ _ | refine blk_drew ?_ | refine blk_alloc ?_ _)); exact BK446.out)) : gb447 ≠ gb446)); clear BK446; clear HB; have BK446 := n0_; have HB := n1_; have BK447 := n2_; have GW447 := n3_; have GE447 := n4_; have NB446_447 := n5_; have NB447_446 := n6_; clear n0_ n1_ n2_ n3_ n4_ n5_ n6_; clear hb hbox hg; have hnb9 := NB446_447.out; have hnc9 := NB447_446.out; have hcz10_0 : w8.cell? ⟨gb446, 0, none⟩ = some (.slice A0_0 l0_0.length c0_0) := (blk_cell BK446.out 0).trans rfl; have hcz10_1 : w8.cell? ⟨gb446, 1, none⟩ = some (.slice A0_1 l0_1.length c0_1) := (blk_cell BK446.out 1).trans rfl; have hfz10_0 := blk_frozen BK446.out 0; have hfz10_1 := blk_frozen BK446.out 1; have hcz11_0 : w8.cell? ⟨gb447, 0, none⟩ = some (.slice A1_0 l1_0.length c1_0) := (blk_cell BK447.out 0).trans rfl; have hcz11_1 : w8.cell? ⟨gb447, 1, none⟩ = some (.slice A1_1 l1_1.length c1_1) := (blk_cell BK447.out 1).trans rfl; have hfz11_0 := blk_frozen BK447.out 0; have hfz11_1 := blk_frozen BK447.out 1) | ((with_reducible refine gate_callee (f := 26) rfl ?_); refine goesL_ (some 9) rfl rfl Try.func26 (by kernel_rfl) rfl #[.slice A0_0 l0_0.length c0_0, .slice A1_0 l1_0.length c1_0] rfl (by (try simp only [List.map_toArray, List.map_cons, List.map_nil]); first | done | rfl | (simp only [List.length_drop, List.length_take]; rfl)) ?_; (with_reducible refine (laws_eqClassS.calls k _ _ l0_0 _ _ l1_0 true _ ?side1 ?side2 ?side3 ?side4 A3.out).mono ?_); (case side1 => repeat (first | exact (Kd.C_below HR0_0.out HB.out) | (with_reducible refine Kd.C_alloc ?_ _) | (with_reducible refine Kd.C_drewN ?_ _) | (with_reducible refine Kd.C_drew ?_))); (case side2 => exact HC0_0.out); (case side3 => repeat (first | exact (Kd.C_below HR1_0.out HB.out) | (with_reducible refine Kd.C_alloc ?_ _) | (with_reducible refine Kd.C_drewN ?_ _) | (with_reducible refine Kd.C_drew ?_))); (case side4 => exact HC1_0.out); rintro e w12 ⟨rfl, hb⟩; refine ⟨_, rfl, ?_⟩; have n0_ := Aside0.mk (blk_below (g := gb446) (o := .cells #[.slice A0_0 l0_0.length c0_0, .slice A0_1 l0_1.length c0_1] 31 (0, 0)) (by (with_reducible repeat (first | refine blk_drewN ?_ _ | refine blk_drew ?_ | refine blk_alloc ?_ _)); exact BK446.out) hb); have n1_ := Aside0.mk (blk_below (g := gb447) (o := .cells #[.slice A1_0 l1_0.length c1_0, .slice A1_1 l1_1.length c1_1] 31 (0, 0)) (by (with_reducible repeat (first | refine blk_drewN ?_ _ | refine blk_drew ?_ | refine blk_alloc ?_ _)); exact BK447.out) hb); have n2_ := Aside0.mk (below_step (by repeat (first | (with_reducible first | exact HB.out | apply below_alloc | apply pw_below_drewN | apply below_drew1 | refine below_set ?_ GE446.out | refine below_set ?_ GE447.out) | exact HB.out)) hb); clear BK446; clear BK447; clear HB; have BK446 := n0_; have BK447 := n1_; have HB := n2_; clear n0_ n1_ n2_; (try clear hb); (try clear hb2); (try clear hk); (try clear hi); have hcz13_0 : w12.cell? ⟨gb446, 0, none⟩ = some (.slice A0_0 l0_0.length c0_0) := (blk_cell BK446.out 0).trans rfl; have hcz13_1 : w12.cell? ⟨gb446, 1, none⟩ = some (.slice A0_1 l0_1.length c0_1) := (blk_cell BK446.out 1).trans rfl; have hfz13_0 := blk_frozen BK446.out 0; have hfz13_1 := blk_frozen BK446.out 1; have hcz14_0 : w12.cell? ⟨gb447, 0, none⟩ = some (.slice A1_0 l1_0.length c1_0) := (blk_cell BK447.out 0).trans rfl; have hcz14_1 : w12.cell? ⟨gb447, 1, none⟩ = some (.slice A1_1 l1_1.length c1_1) := (blk_cell BK447.out 1).trans rfl; have hfz14_0 := blk_frozen BK447.out 0; have hfz14_1 := blk_frozen BK447.out 1) | ((with_reducible refine gate_callee (f := 27) rfl ?_); refine goesL_ (some 15) rfl rfl Try.func27 (by kernel_rfl) rfl #[.slice A0_1 l0_1.length c0_1, .slice A1_1 l1_1.length c1_1] rfl (by (try simp only [List.map_toArray, List.map_cons, List.map_nil]); first | done | rfl | (simp only [List.length_drop, List.length_take]; rfl)) ?_; (with_reducible refine (laws_eqMethodS.calls k _ _ l0_1 _ _ l1_1 true _ ?side1 ?side2 ?side3 ?side4 A5.out).mono ?_); (case side1 => repeat (first | exact (Kd.C_below HR0_1.out HB.out) | (with_reducible refine Kd.C_alloc ?_ _) | (with_reducible refine Kd.C_drewN ?_ _) | (with_reducible refine Kd.C_drew ?_))); (case side2 => exact HC0_1.out); (case side3 => repeat (first | exact (Kd.C_below HR1_1.out HB.out) | (with_reducible refine Kd.C_alloc ?_ _) | (with_reducible refine Kd.C_drewN ?_ _) | (with_reducible refine Kd.C_drew ?_))); (case side4 => exact HC1_1.out); rintro e w15 ⟨rfl, hb⟩; refine ⟨_, rfl, ?_⟩; have n0_ := Aside0.mk (blk_below (g := gb446) (o := .cells #[.slice A0_0 l0_0.length c0_0, .slice A0_1 l0_1.length c0_1] 31 (0, 0)) (by (with_reducible repeat (first | refine blk_drewN ?_ _ | refine blk_drew ?_ | refine blk_alloc ?_ _)); exact BK446.out) hb); have n1_ := Aside0.mk (blk_below (g := gb447) (o := .cells #[.slice A1_0 l1_0.length c1_0, .slice A1_1 l1_1.length c1_1] 31 (0, 0)) (by (with_reducible repeat (first | refine blk_drewN ?_ _ | refine blk_drew ?_ | refine blk_alloc ?_ _)); exact BK447.out) hb); have n2_ := Aside0.mk (below_step (by repeat (first | (with_reducible first | exact HB.out | apply below_alloc | apply pw_below_drewN | apply below_drew1 | refine below_set ?_ GE446.out | refine below_set ?_ GE447.out) | exact HB.out)) hb); clear BK446; clear BK447; clear HB; have BK446 := n0_; have BK447 := n1_; have HB := n2_; clear n0_ n1_ n2_; (try clear hb); (try clear hb2); (try clear hk); (try clear hi)))
      go_ret
      exact ⟨by first | rfl | (simp [errW_none, errW_some] <;> rfl) | (simp [*, errW_none, errW_some] <;> rfl), by repeat (first | (with_reducible first | exact HB.out | apply below_alloc | apply pw_below_drewN | apply below_drew1 | refine below_set ?_ GE446.out | refine below_set ?_ GE447.out) | exact HB.out)⟩
    · replace c6 := Bool.eq_false_iff.mpr c6
      subst c6
      have H1 : (some false) = some r := by rw [if_neg (show ¬ (false = true) by decide)] at H; exact H
      clear H
      have H := H1
      clear H1
      obtain rfl := Option.some.inj H
      simp only [Option.some.injEq, Prod.mk.injEq] at H
      obtain ⟨rfl⟩ := H
      go_enter Try.func9, Try.ntmps9
      go_wp2_with (first | ((with_reducible refine gate_dst (N := 2) rfl ?_); refine box_event ?hg (N := 2) ?hd (cs := #[.slice A0_0 l0_0.length c0_0, .slice A0_1 l0_1.length c0_1]) (t := 31) ?hr ?_; (case hd => rfl); (case hg => rfl); (case hr => first | (go_simp; done) | (go_simp; rfl)); intro gb446 hg w16 hbox hb; have n0_ := Aside0.mk (below_step (by repeat (first | (with_reducible first | exact HB.out | apply below_alloc | apply pw_below_drewN | apply below_drew1) | exact HB.out)) hb); have n1_ := Aside0.mk (hbox); have n2_ := Aside0.mk ((by rw [hg]; exact (below_size (by repeat (first | (with_reducible first | exact HB.out | apply below_alloc | apply pw_below_drewN | apply below_drew1) | exact HB.out))) : w.heap.size ≤ gb446)); have n3_ := Aside0.mk ((by rw [hg]; exact (below_size (by repeat (first | (with_reducible first | exact HB.out | apply below_alloc | apply pw_below_drewN | apply below_drew1) | exact HB.out))) : w.heap.size ≤ gb446)); clear HB; have HB := n0_; have BK446 := n1_; have GW446 := n2_; have GE446 := n3_; clear n0_ n1_ n2_ n3_; clear hb hbox hg) | ((with_reducible refine gate_dst (N := 3) rfl ?_); refine box_event ?hg (N := 3) ?hd (cs := #[.slice A1_0 l1_0.length c1_0, .slice A1_1 l1_1.length c1_1]) (t := 31) ?hr ?_; (case hd => rfl); (case hg => rfl); (case hr => first | (go_simp; done) | (go_simp; rfl)); intro gb447 hg w17 hbox hb; have n0_ := Aside0.mk (blk_below (g := gb446) (o := .cells #[.slice A0_0 l0_0.length c0_0, .slice A0_1 l0_1.length c0_1] 31 (0, 0)) (by (with_reducible repeat (first | refine blk_drewN ?_ _ | refine blk_drew ?_ | refine blk_alloc ?_ _)); exact BK446.out) hb); have n1_ := Aside0.mk (below_step (by repeat (first | (with_reducible first | exact HB.out | apply below_alloc | apply pw_below_drewN | apply below_drew1 | refine below_set ?_ GE446.out) | exact HB.out)) hb); have n2_ := Aside0.mk (hbox); have n3_ := Aside0.mk ((by rw [hg]; exact (below_size (by repeat (first | (with_reducible first | exact HB.out | apply below_alloc | apply pw_below_drewN | apply below_drew1 | refine below_set ?_ GE446.out) | exact HB.out))) : w.heap.size ≤ gb447)); have n4_ := Aside0.mk ((by rw [hg]; exact (below_size (by repeat (first | (with_reducible first | exact HB.out | apply below_alloc | apply pw_below_drewN | apply below_drew1 | refine below_set ?_ GE446.out) | exact HB.out))) : w.heap.size ≤ gb447)); have n5_ := Aside0.mk ((by rw [hg]; exact Nat.ne_of_lt (blk_lt (g := gb446) (o := .cells #[.slice A0_0 l0_0.length c0_0, .slice A0_1 l0_1.length c0_1] 31 (0, 0)) (by (with_reducible repeat (first | refine blk_drewN ?_ _ | refine blk_drew ?_ | refine blk_alloc ?_ _)); exact BK446.out)) : gb446 ≠ gb447)); have n6_ := Aside0.mk ((by rw [hg]; exact Nat.ne_of_gt (blk_lt (g := gb446) (o := .cells #[.slice A0_0 l0_0.length c0_0, .slice A0_1 l0_1.length c0_1] 31 (0, 0)) (by (with_reducible repeat (first | refine blk_drewN ?_ _ | refine blk_drew ?_ | refine blk_alloc ?_ _)); exact BK446.out)) : gb447 ≠ gb446)); clear BK446; clear HB; have BK446 := n0_; have HB := n1_; have BK447 := n2_; have GW447 := n3_; have GE447 := n4_; have NB446_447 := n5_; have NB447_446 := n6_; clear n0_ n1_ n2_ n3_ n4_ n5_ n6_; clear hb hbox hg; have hnb18 := NB446_447.out; have hnc18 := NB447_446.out; have hcz19_0 : w17.cell? ⟨gb446, 0, none⟩ = some (.slice A0_0 l0_0.length c0_0) := (blk_cell BK446.out 0).trans rfl; have hcz19_1 : w17.cell? ⟨gb446, 1, none⟩ = some (.slice A0_1 l0_1.length c0_1) := (blk_cell BK446.out 1).trans rfl; have hfz19_0 := blk_frozen BK446.out 0; have hfz19_1 := blk_frozen BK446.out 1; have hcz20_0 : w17.cell? ⟨gb447, 0, none⟩ = some (.slice A1_0 l1_0.length c1_0) := (blk_cell BK447.out 0).trans rfl; have hcz20_1 : w17.cell? ⟨gb447, 1, none⟩ = some (.slice A1_1 l1_1.length c1_1) := (blk_cell BK447.out 1).trans rfl; have hfz20_0 := blk_frozen BK447.out 0; have hfz20_1 := blk_frozen BK447.out 1) | ((with_reducible refine gate_callee (f := 26) rfl ?_); refine goesL_ (some 9) rfl rfl Try.func26 (by kernel_rfl) rfl #[.slice A0_0 l0_0.length c0_0, .slice A1_0 l1_0.length c1_0] rfl (by (try simp only [List.map_toArray, List.map_cons, List.map_nil]); first | done | rfl | (simp only [List.length_drop, List.length_take]; rfl)) ?_; (with_reducible refine (laws_eqClassS.calls k _ _ l0_0 _ _ l1_0 true _ ?side1 ?side2 ?side3 ?side4 A3.out).mono ?_); (case side1 => repeat (first | exact (Kd.C_below HR0_0.out HB.out) | (with_reducible refine Kd.C_alloc ?_ _) | (with_reducible refine Kd.C_drewN ?_ _) | (with_reducible refine Kd.C_drew ?_))); (case side2 => exact HC0_0.out); (case side3 => repeat (first | exact (Kd.C_below HR1_0.out HB.out) | (with_reducible refine Kd.C_alloc ?_ _) | (with_reducible refine Kd.C_drewN ?_ _) | (with_reducible refine Kd.C_drew ?_))); (case side4 => exact HC1_0.out); rintro e w21 ⟨rfl, hb⟩; refine ⟨_, rfl, ?_⟩; have n0_ := Aside0.mk (blk_below (g := gb446) (o := .cells #[.slice A0_0 l0_0.length c0_0, .slice A0_1 l0_1.length c0_1] 31 (0, 0)) (by (with_reducible repeat (first | refine blk_drewN ?_ _ | refine blk_drew ?_ | refine blk_alloc ?_ _)); exact BK446.out) hb); have n1_ := Aside0.mk (blk_below (g := gb447) (o := .cells #[.slice A1_0 l1_0.length c1_0, .slice A1_1 l1_1.length c1_1] 31 (0, 0)) (by (with_reducible repeat (first | refine blk_drewN ?_ _ | refine blk_drew ?_ | refine blk_alloc ?_ _)); exact BK447.out) hb); have n2_ := Aside0.mk (below_step (by repeat (first | (with_reducible first | exact HB.out | apply below_alloc | apply pw_below_drewN | apply below_drew1 | refine below_set ?_ GE446.out | refine below_set ?_ GE447.out) | exact HB.out)) hb); clear BK446; clear BK447; clear HB; have BK446 := n0_; have BK447 := n1_; have HB := n2_; clear n0_ n1_ n2_; (try clear hb); (try clear hb2); (try clear hk); (try clear hi); have hcz22_0 : w21.cell? ⟨gb446, 0, none⟩ = some (.slice A0_0 l0_0.length c0_0) := (blk_cell BK446.out 0).trans rfl; have hcz22_1 : w21.cell? ⟨gb446, 1, none⟩ = some (.slice A0_1 l0_1.length c0_1) := (blk_cell BK446.out 1).trans rfl; have hfz22_0 := blk_frozen BK446.out 0; have hfz22_1 := blk_frozen BK446.out 1; have hcz23_0 : w21.cell? ⟨gb447, 0, none⟩ = some (.slice A1_0 l1_0.length c1_0) := (blk_cell BK447.out 0).trans rfl; have hcz23_1 : w21.cell? ⟨gb447, 1, none⟩ = some (.slice A1_1 l1_1.length c1_1) := (blk_cell BK447.out 1).trans rfl; have hfz23_0 := blk_frozen BK447.out 0; have hfz23_1 := blk_frozen BK447.out 1) | ((with_reducible refine gate_callee (f := 27) rfl ?_); refine goesL_ (some 15) rfl rfl Try.func27 (by kernel_rfl) rfl #[.slice A0_1 l0_1.length c0_1, .slice A1_1 l1_1.length c1_1] rfl (by (try simp only [List.map_toArray, List.map_cons, List.map_nil]); first | done | rfl | (simp only [List.length_drop, List.length_take]; rfl)) ?_; (with_reducible refine (laws_eqMethodS.calls k _ _ l0_1 _ _ l1_1 false _ ?side1 ?side2 ?side3 ?side4 A5.out).mono ?_); (case side1 => repeat (first | exact (Kd.C_below HR0_1.out HB.out) | (with_reducible refine Kd.C_alloc ?_ _) | (with_reducible refine Kd.C_drewN ?_ _) | (with_reducible refine Kd.C_drew ?_))); (case side2 => exact HC0_1.out); (case side3 => repeat (first | exact (Kd.C_below HR1_1.out HB.out) | (with_reducible refine Kd.C_alloc ?_ _) | (with_reducible refine Kd.C_drewN ?_ _) | (with_reducible refine Kd.C_drew ?_))); (case side4 => exact HC1_1.out); rintro e w24 ⟨rfl, hb⟩; refine ⟨_, rfl, ?_⟩; have n0_ := Aside0.mk (blk_below (g := gb446) (o := .cells #[.slice A0_0 l0_0.length c0_0, .slice A0_1 l0_1.length c0_1] 31 (0, 0)) (by (with_reducible repeat (first | refine blk_drewN ?_ _ | refine blk_drew ?_ | refine blk_alloc ?_ _)); exact BK446.out) hb); have n1_ := Aside0.mk (blk_below (g := gb447) (o := .cells #[.slice A1_0 l1_0.length c1_0, .slice A1_1 l1_1.length c1_1] 31 (0, 0)) (by (with_reducible repeat (first | refine blk_drewN ?_ _ | refine blk_drew ?_ | refine blk_alloc ?_ _)); exact BK447.out) hb); have n2_ := Aside0.mk (below_step (by repeat (first | (with_reducible first | exact HB.out | apply below_alloc | apply pw_below_drewN | apply below_drew1 | refine below_set ?_ GE446.out | refine below_set ?_ GE447.out) | exact HB.out)) hb); clear BK446; clear BK447; clear HB; have BK446 := n0_; have BK447 := n1_; have HB := n2_; clear n0_ n1_ n2_; (try clear hb); (try clear hb2); (try clear hk); (try clear hi)))
      go_ret
      exact ⟨by first | rfl | (simp [errW_none, errW_some] <;> rfl) | (simp [*, errW_none, errW_some] <;> rfl), by repeat (first | (with_reducible first | exact HB.out | apply below_alloc | apply pw_below_drewN | apply below_drew1 | refine below_set ?_ GE446.out | refine below_set ?_ GE447.out) | exact HB.out)⟩
  · replace c4 := Bool.eq_false_iff.mpr c4
    subst c4
    have H1 : (some false) = some r := by rw [if_neg (show ¬ (false = true) by decide)] at H; exact H
    clear H
    have H := H1
    clear H1
    obtain rfl := Option.some.inj H
    simp only [Option.some.injEq, Prod.mk.injEq] at H
    obtain ⟨rfl⟩ := H
    go_enter Try.func9, Try.ntmps9
    go_wp2_with (first | ((with_reducible refine gate_dst (N := 2) rfl ?_); refine box_event ?hg (N := 2) ?hd (cs := #[.slice A0_0 l0_0.length c0_0, .slice A0_1 l0_1.length c0_1]) (t := 31) ?hr ?_; (case hd => rfl); (case hg => rfl); (case hr => first | (go_simp; done) | (go_simp; rfl)); intro gb446 hg w25 hbox hb; have n0_ := Aside0.mk (below_step (by repeat (first | (with_reducible first | exact HB.out | apply below_alloc | apply pw_below_drewN | apply below_drew1) | exact HB.out)) hb); have n1_ := Aside0.mk (hbox); have n2_ := Aside0.mk ((by rw [hg]; exact (below_size (by repeat (first | (with_reducible first | exact HB.out | apply below_alloc | apply pw_below_drewN | apply below_drew1) | exact HB.out))) : w.heap.size ≤ gb446)); have n3_ := Aside0.mk ((by rw [hg]; exact (below_size (by repeat (first | (with_reducible first | exact HB.out | apply below_alloc | apply pw_below_drewN | apply below_drew1) | exact HB.out))) : w.heap.size ≤ gb446)); clear HB; have HB := n0_; have BK446 := n1_; have GW446 := n2_; have GE446 := n3_; clear n0_ n1_ n2_ n3_; clear hb hbox hg) | ((with_reducible refine gate_dst (N := 3) rfl ?_); refine box_event ?hg (N := 3) ?hd (cs := #[.slice A1_0 l1_0.length c1_0, .slice A1_1 l1_1.length c1_1]) (t := 31) ?hr ?_; (case hd => rfl); (case hg => rfl); (case hr => first | (go_simp; done) | (go_simp; rfl)); intro gb447 hg w26 hbox hb; have n0_ := Aside0.mk (blk_below (g := gb446) (o := .cells #[.slice A0_0 l0_0.length c0_0, .slice A0_1 l0_1.length c0_1] 31 (0, 0)) (by (with_reducible repeat (first | refine blk_drewN ?_ _ | refine blk_drew ?_ | refine blk_alloc ?_ _)); exact BK446.out) hb); have n1_ := Aside0.mk (below_step (by repeat (first | (with_reducible first | exact HB.out | apply below_alloc | apply pw_below_drewN | apply below_drew1 | refine below_set ?_ GE446.out) | exact HB.out)) hb); have n2_ := Aside0.mk (hbox); have n3_ := Aside0.mk ((by rw [hg]; exact (below_size (by repeat (first | (with_reducible first | exact HB.out | apply below_alloc | apply pw_below_drewN | apply below_drew1 | refine below_set ?_ GE446.out) | exact HB.out))) : w.heap.size ≤ gb447)); have n4_ := Aside0.mk ((by rw [hg]; exact (below_size (by repeat (first | (with_reducible first | exact HB.out | apply below_alloc | apply pw_below_drewN | apply below_drew1 | refine below_set ?_ GE446.out) | exact HB.out))) : w.heap.size ≤ gb447)); have n5_ := Aside0.mk ((by rw [hg]; exact Nat.ne_of_lt (blk_lt (g := gb446) (o := .cells #[.slice A0_0 l0_0.length c0_0, .slice A0_1 l0_1.length c0_1] 31 (0, 0)) (by (with_reducible repeat (first | refine blk_drewN ?_ _ | refine blk_drew ?_ | refine blk_alloc ?_ _)); exact BK446.out)) : gb446 ≠ gb447)); have n6_ := Aside0.mk ((by rw [hg]; exact Nat.ne_of_gt (blk_lt (g := gb446) (o := .cells #[.slice A0_0 l0_0.length c0_0, .slice A0_1 l0_1.length c0_1] 31 (0, 0)) (by (with_reducible repeat (first | refine blk_drewN ?_ _ | refine blk_drew ?_ | refine blk_alloc ?_ _)); exact BK446.out)) : gb447 ≠ gb446)); clear BK446; clear HB; have BK446 := n0_; have HB := n1_; have BK447 := n2_; have GW447 := n3_; have GE447 := n4_; have NB446_447 := n5_; have NB447_446 := n6_; clear n0_ n1_ n2_ n3_ n4_ n5_ n6_; clear hb hbox hg; have hnb27 := NB446_447.out; have hnc27 := NB447_446.out; have hcz28_0 : w26.cell? ⟨gb446, 0, none⟩ = some (.slice A0_0 l0_0.length c0_0) := (blk_cell BK446.out 0).trans rfl; have hcz28_1 : w26.cell? ⟨gb446, 1, none⟩ = some (.slice A0_1 l0_1.length c0_1) := (blk_cell BK446.out 1).trans rfl; have hfz28_0 := blk_frozen BK446.out 0; have hfz28_1 := blk_frozen BK446.out 1; have hcz29_0 : w26.cell? ⟨gb447, 0, none⟩ = some (.slice A1_0 l1_0.length c1_0) := (blk_cell BK447.out 0).trans rfl; have hcz29_1 : w26.cell? ⟨gb447, 1, none⟩ = some (.slice A1_1 l1_1.length c1_1) := (blk_cell BK447.out 1).trans rfl; have hfz29_0 := blk_frozen BK447.out 0; have hfz29_1 := blk_frozen BK447.out 1) | ((with_reducible refine gate_callee (f := 26) rfl ?_); refine goesL_ (some 9) rfl rfl Try.func26 (by kernel_rfl) rfl #[.slice A0_0 l0_0.length c0_0, .slice A1_0 l1_0.length c1_0] rfl (by (try simp only [List.map_toArray, List.map_cons, List.map_nil]); first | done | rfl | (simp only [List.length_drop, List.length_take]; rfl)) ?_; (with_reducible refine (laws_eqClassS.calls k _ _ l0_0 _ _ l1_0 false _ ?side1 ?side2 ?side3 ?side4 A3.out).mono ?_); (case side1 => repeat (first | exact (Kd.C_below HR0_0.out HB.out) | (with_reducible refine Kd.C_alloc ?_ _) | (with_reducible refine Kd.C_drewN ?_ _) | (with_reducible refine Kd.C_drew ?_))); (case side2 => exact HC0_0.out); (case side3 => repeat (first | exact (Kd.C_below HR1_0.out HB.out) | (with_reducible refine Kd.C_alloc ?_ _) | (with_reducible refine Kd.C_drewN ?_ _) | (with_reducible refine Kd.C_drew ?_))); (case side4 => exact HC1_0.out); rintro e w30 ⟨rfl, hb⟩; refine ⟨_, rfl, ?_⟩; have n0_ := Aside0.mk (blk_below (g := gb446) (o := .cells #[.slice A0_0 l0_0.length c0_0, .slice A0_1 l0_1.length c0_1] 31 (0, 0)) (by (with_reducible repeat (first | refine blk_drewN ?_ _ | refine blk_drew ?_ | refine blk_alloc ?_ _)); exact BK446.out) hb); have n1_ := Aside0.mk (blk_below (g := gb447) (o := .cells #[.slice A1_0 l1_0.length c1_0, .slice A1_1 l1_1.length c1_1] 31 (0, 0)) (by (with_reducible repeat (first | refine blk_drewN ?_ _ | refine blk_drew ?_ | refine blk_alloc ?_ _)); exact BK447.out) hb); have n2_ := Aside0.mk (below_step (by repeat (first | (with_reducible first | exact HB.out | apply below_alloc | apply pw_below_drewN | apply below_drew1 | refine below_set ?_ GE446.out | refine below_set ?_ GE447.out) | exact HB.out)) hb); clear BK446; clear BK447; clear HB; have BK446 := n0_; have BK447 := n1_; have HB := n2_; clear n0_ n1_ n2_; (try clear hb); (try clear hb2); (try clear hk); (try clear hi)))
    go_ret
    exact ⟨by first | rfl | (simp [errW_none, errW_some] <;> rfl) | (simp [*, errW_none, errW_some] <;> rfl), by repeat (first | (with_reducible first | exact HB.out | apply below_alloc | apply pw_below_drewN | apply below_drew1 | refine below_set ?_ GE446.out | refine below_set ?_ GE447.out) | exact HB.out)⟩
end Go.Proofs.Ytedodaifpekahaa.P

end
section

namespace Go.Proofs.Ytedodaifpekahaa.P
open Go.RowKit Go.Proofs.YtedodaifpekahaaW.PrintWords Go.Proofs.YtedodaifpekahaaW.PrintLast Go.Proofs.YtedodaifpekahaaW.PrintMore
attribute [local go_sem] max2_int min2_int max_two min_two max_three min_three max_four min_four
set_option linter.unusedVariables false
set_option linter.unusedSimpArgs false
set_option maxHeartbeats 8000000 in
set_option maxRecDepth 100000 in
theorem laws_FnExactUnitOk.calls (k : Nat) (A0_0 : Option Addr) (c0_0 : Nat) (l0_0 : List (S58)) (A0_1 : Option Addr) (c0_1 : Nat) (l0_1 : List (S64)) (r : Bool) (w : World) (hr0_0 : Kd.C k58 w A0_0 l0_0.length l0_0) (hc0_0 : l0_0.length ≤ c0_0) (hr0_1 : Kd.C k64 w A0_1 l0_1.length l0_1) (hc0_1 : l0_1.length ≤ c0_1) (h : laws_FnExactUnitOk.f k l0_0 l0_1 = some r) (hr_ : r = true) :
    Calls Try.prog 3 #[.agg #[.slice A0_0 l0_0.length c0_0, .slice A0_1 l0_1.length c0_1]] w fun e w' => e = .returned (.bool r) ∧ Below w.heap.size w w' := by
  have hu25 := Try.underlying25
  have hu31 := Try.underlying31
  have HR0_0 := Aside0.mk hr0_0
  have HC0_0 := Aside0.mk hc0_0
  clear hr0_0 hc0_0
  have HR0_1 := Aside0.mk hr0_1
  have HC0_1 := Aside0.mk hc0_1
  clear hr0_1 hc0_1
  have HB := Aside0.mk (Below.refl w.heap.size w)
  have H : ((laws_szUnit.f k l0_0 l0_1 1048576).bind fun t451 => (if t451 < 0 then (some true) else ((laws_toUnit.f k l0_0 l0_1).bind fun bt452 => ((spec_UnitOk.f k bt452.1 bt452.2).bind fun t458 => ((laws_toUnit.f k l0_0 l0_1).bind fun bt459 => ((impl_UnitOk.f k bt459.1 bt459.2).bind fun t466 => (if (t466 != t458) = true then (some false) else ((laws_toUnit.f k l0_0 l0_1).bind fun bt467 => ((laws_eqUnit.f k bt459.1 bt459.2 bt467.1 bt467.2).bind fun t473 => (if t473 = true then (some true) else (some false))))))))))) = some r := h
  clear h
  replace H := Option.bind_eq_some_iff.mp H
  obtain ⟨t451, A20, H⟩ := H
  replace H : (if t451 < 0 then (some true) else ((laws_toUnit.f k l0_0 l0_1).bind fun bt452 => ((spec_UnitOk.f k bt452.1 bt452.2).bind fun t458 => ((laws_toUnit.f k l0_0 l0_1).bind fun bt459 => ((impl_UnitOk.f k bt459.1 bt459.2).bind fun t466 => (if (t466 != t458) = true then (some false) else ((laws_toUnit.f k l0_0 l0_1).bind fun bt467 => ((laws_eqUnit.f k bt459.1 bt459.2 bt467.1 bt467.2).bind fun t473 => (if t473 = true then (some true) else (some false)))))))))) = some r := H
  have A2 := Aside0.mk A20
  clear A20
  by_cases c3 : t451 < 0
  · rw [if_pos c3] at H
    have c3b0 : decide (t451 < 0) = true := decide_eq_true c3
    clear c3
    obtain rfl := Option.some.inj H
    simp only [Option.some.injEq, Prod.mk.injEq] at H
    obtain ⟨rfl⟩ := H
    go_enter Try.func3, Try.ntmps3
    go_wp2_with (first | ((with_reducible refine gate_dst (N := 1) rfl ?_); refine box_event ?hg (N := 1) ?hd (cs := #[.slice A0_0 l0_0.length c0_0, .slice A0_1 l0_1.length c0_1]) (t := 25) ?hr ?_; (case hd => rfl); (case hg => rfl); (case hr => first | (go_simp; done) | (go_simp; rfl)); intro gb450 hg w4 hbox hb; have n0_ := Aside0.mk (below_step (by repeat (first | (with_reducible first | exact HB.out | apply below_alloc | apply pw_below_drewN | apply below_drew1) | exact HB.out)) hb); have n1_ := Aside0.mk (hbox); have n2_ := Aside0.mk ((by rw [hg]; exact (below_size (by repeat (first | (with_reducible first | exact HB.out | apply below_alloc | apply pw_below_drewN | apply below_drew1) | exact HB.out))) : w.heap.size ≤ gb450)); have n3_ := Aside0.mk ((by rw [hg]; exact (below_size (by repeat (first | (with_reducible first | exact HB.out | apply below_alloc | apply pw_below_drewN | apply below_drew1) | exact HB.out))) : w.heap.size ≤ gb450)); clear HB; have HB := n0_; have BK450 := n1_; have GW450 := n2_; have GE450 := n3_; clear n0_ n1_ n2_ n3_; clear hb hbox hg; have hcz5_0 : w4.cell? ⟨gb450, 0, none⟩ = some (.slice A0_0 l0_0.length c0_0) := (blk_cell BK450.out 0).trans rfl; have hcz5_1 : w4.cell? ⟨gb450, 1, none⟩ = some (.slice A0_1 l0_1.length c0_1) := (blk_cell BK450.out 1).trans rfl; have hfz5_0 := blk_frozen BK450.out 0; have hfz5_1 := blk_frozen BK450.out 1) | ((with_reducible refine gate_callee (f := 5) rfl ?_); refine goesL_ (some 9) rfl rfl Try.func5 (by kernel_rfl) rfl #[.agg #[.slice A0_0 l0_0.length c0_0, .slice A0_1 l0_1.length c0_1], .int .i64 1048576] rfl (by (try simp only [List.map_toArray, List.map_cons, List.map_nil]); first | done | rfl | (simp only [List.length_drop, List.length_take]; rfl)) ?_; (with_reducible refine (laws_szUnit.calls k _ _ l0_0 _ _ l0_1 1048576 t451 _ ?side1 ?side2 ?side3 ?side4 A2.out).mono ?_); (case side1 => repeat (first | exact (Kd.C_below HR0_0.out HB.out) | (with_reducible refine Kd.C_alloc ?_ _) | (with_reducible refine Kd.C_drewN ?_ _) | (with_reducible refine Kd.C_drew ?_))); (case side2 => exact HC0_0.out); (case side3 => repeat (first | exact (Kd.C_below HR0_1.out HB.out) | (with_reducible refine Kd.C_alloc ?_ _) | (with_reducible refine Kd.C_drewN ?_ _) | (with_reducible refine Kd.C_drew ?_))); (case side4 => exact HC0_1.out); rintro e w6 ⟨rfl, hb⟩; refine ⟨_, rfl, ?_⟩; have n0_ := Aside0.mk (blk_below (g := gb450) (o := .cells #[.slice A0_0 l0_0.length c0_0, .slice A0_1 l0_1.length c0_1] 25 (0, 0)) (by (with_reducible repeat (first | refine blk_drewN ?_ _ | refine blk_drew ?_ | refine blk_alloc ?_ _)); exact BK450.out) hb); have n1_ := Aside0.mk (below_step (by repeat (first | (with_reducible first | exact HB.out | apply below_alloc | apply pw_below_drewN | apply below_drew1 | refine below_set ?_ GE450.out) | exact HB.out)) hb); clear BK450; clear HB; have BK450 := n0_; have HB := n1_; clear n0_ n1_; (try clear hb); (try clear hb2); (try clear hk); (try clear hi)))
    go_ret
    exact ⟨by first | rfl | (simp [errW_none, errW_some] <;> rfl) | (simp [*, errW_none, errW_some] <;> rfl), by repeat (first | (with_reducible first | exact HB.out | apply below_alloc | apply pw_below_drewN | apply below_drew1 | refine below_set ?_ GE450.out) | exact HB.out)⟩
  · rw [if_neg c3] at H
    have c3b0 : decide (t451 < 0) = false := decide_eq_false c3
    clear c3
    replace H := Option.bind_eq_some_iff.mp H
    obtain ⟨⟨t452, t455⟩, A70, H⟩ := H
    replace H : ((spec_UnitOk.f k t452 t455).bind fun t458 => ((laws_toUnit.f k l0_0 l0_1).bind fun bt459 => ((impl_UnitOk.f k bt459.1 bt459.2).bind fun t466 => (if (t466 != t458) = true then (some false) else ((laws_toUnit.f k l0_0 l0_1).bind fun bt467 => ((laws_eqUnit.f k bt459.1 bt459.2 bt467.1 bt467.2).bind fun t473 => (if t473 = true then (some true) else (some false)))))))) = some r := H
    have A7 := Aside0.mk A70
    clear A70
    replace H := Option.bind_eq_some_iff.mp H
    obtain ⟨t458, A80, H⟩ := H
    replace H : ((laws_toUnit.f k l0_0 l0_1).bind fun bt459 => ((impl_UnitOk.f k bt459.1 bt459.2).bind fun t466 => (if (t466 != t458) = true then (some false) else ((laws_toUnit.f k l0_0 l0_1).bind fun bt467 => ((laws_eqUnit.f k bt459.1 bt459.2 bt467.1 bt467.2).bind fun t473 => (if t473 = true then (some true) else (some false))))))) = some r := H
    have A8 := Aside0.mk A80
    clear A80
    replace H := Option.bind_eq_some_iff.mp H
    obtain ⟨⟨t459, t462⟩, A90, H⟩ := H
    replace H : ((impl_UnitOk.f k t459 t462).bind fun t466 => (if (t466 != t458) = true then (some false) else ((laws_toUnit.f k l0_0 l0_1).bind fun bt467 => ((laws_eqUnit.f k t459 t462 bt467.1 bt467.2).bind fun t473 => (if t473 = true then (some true) else (some false)))))) = some r := H
    have A9 := Aside0.mk A90
    clear A90
    replace H := Option.bind_eq_some_iff.mp H
    obtain ⟨t466, A100, H⟩ := H
    replace H : (if (t466 != t458) = true then (some false) else ((laws_toUnit.f k l0_0 l0_1).bind fun bt467 => ((laws_eqUnit.f k t459 t462 bt467.1 bt467.2).bind fun t473 => (if t473 = true then (some true) else (some false))))) = some r := H
    have A10 := Aside0.mk A100
    clear A100
    by_cases c11 : (t466 != t458) = true
    · rw [if_pos c11] at H
      have c11b0 : (t466 != t458) = true := c11
      (try (have c11b1 : decide (t466 = t458) = false := by simpa using c11))
      (try (have c11b2 : (t466 == t458) = false := by simpa using c11))
      (try (have c11b3 : ¬ (t466 = t458) := by simpa using c11))
      clear c11
      obtain rfl := Option.some.inj H
      exact absurd hr_ (by decide)
    · rw [if_neg c11] at H
      have c11b0 : (t466 != t458) = false := by simpa using c11
      (try (have c11b1 : decide (t466 = t458) = true := by simpa using c11))
      (try (have c11b2 : (t466 == t458) = true := by simpa using c11))
      clear c11
      replace H := Option.bind_eq_some_iff.mp H
      obtain ⟨⟨t467, t470⟩, A120, H⟩ := H
      replace H : ((laws_eqUnit.f k t459 t462 t467 t470).bind fun t473 => (if t473 = true then (some true) else (some false))) = some r := H
      have A12 := Aside0.mk A120
      clear A120
      replace H := Option.bind_eq_some_iff.mp H
      obtain ⟨t473, A130, H⟩ := H
      replace H : (if t473 = true then (some true) else (some false)) = some r := H
      have A13 := Aside0.mk A130
      clear A130
      by_cases c14 : t473 = true
      · subst c14
        have H1 : (some true) = some r := by rw [if_pos rfl] at H; exact H
        clear H
        have H := H1
        clear H1
        obtain rfl := Option.some.inj H
        simp only [Option.some.injEq, Prod.mk.injEq] at H
        obtain ⟨rfl⟩ := H
        go_enter Try.func3, Try.ntmps3
        try go_wp2_with (first | ((with_reducible refine gate_dst (N := 1) rfl ?_); refine box_event ?hg (N := 1) ?hd (cs := #[.slice A0_0 l0_0.length c0_0, .slice A0_1 l0_1.length c0_1]) (t := 25) ?hr ?_; (case hd => rfl); (case hg => rfl); (case hr => first | (go_simp; done) | (go_simp; rfl)); intro gb450 hg w15 hbox hb; have n0_ := Aside0.mk (below_step (by repeat (first | (with_reducible first | exact HB.out | apply below_alloc | apply pw_below_drewN | apply below_drew1) | exact HB.out)) hb); have n1_ := Aside0.mk (hbox); have n2_ := Aside0.mk ((by rw [hg]; exact (below_size (by repeat (first | (with_reducible first | exact HB.out | apply below_alloc | apply pw_below_drewN | apply below_drew1) | exact HB.out))) : w.heap.size ≤ gb450)); have n3_ := Aside0.mk ((by rw [hg]; exact (below_size (by repeat (first | (with_reducible first | exact HB.out | apply below_alloc | apply pw_below_drewN | apply below_drew1) | exact HB.out))) : w.heap.size ≤ gb450)); clear HB; have HB := n0_; have BK450 := n1_; have GW450 := n2_; have GE450 := n3_; clear n0_ n1_ n2_ n3_; clear hb hbox hg; have hcz16_0 : w15.cell? ⟨gb450, 0, none⟩ = some (.slice A0_0 l0_0.length c0_0) := (blk_cell BK450.out 0).trans rfl; have hcz16_1 : w15.cell? ⟨gb450, 1, none⟩ = some (.slice A0_1 l0_1.length c0_1) := (blk_cell BK450.out 1).trans rfl; have hfz16_0 := blk_frozen BK450.out 0; have hfz16_1 := blk_frozen BK450.out 1) | ((with_reducible refine gate_callee (f := 5) rfl ?_); refine goesL_ (some 9) rfl rfl Try.func5 (by kernel_rfl) rfl #[.agg #[.slice A0_0 l0_0.length c0_0, .slice A0_1 l0_1.length c0_1], .int .i64 1048576] rfl (by (try simp only [List.map_toArray, List.map_cons, List.map_nil]); first | done | rfl | (simp only [List.length_drop, List.length_take]; rfl)) ?_; (with_reducible refine (laws_szUnit.calls k _ _ l0_0 _ _ l0_1 1048576 t451 _ ?side1 ?side2 ?side3 ?side4 A2.out).mono ?_); (case side1 => repeat (first | exact (Kd.C_below HR0_0.out HB.out) | (with_reducible refine Kd.C_alloc ?_ _) | (with_reducible refine Kd.C_drewN ?_ _) | (with_reducible refine Kd.C_drew ?_))); (case side2 => exact HC0_0.out); (case side3 => repeat (first | exact (Kd.C_below HR0_1.out HB.out) | (with_reducible refine Kd.C_alloc ?_ _) | (with_reducible refine Kd.C_drewN ?_ _) | (with_reducible refine Kd.C_drew ?_))); (case side4 => exact HC0_1.out); rintro e w17 ⟨rfl, hb⟩; refine ⟨_, rfl, ?_⟩; have n0_ := Aside0.mk (blk_below (g := gb450) (o := .cells #[.slice A0_0 l0_0.length c0_0, .slice A0_1 l0_1.length c0_1] 25 (0, 0)) (by (with_reducible repeat (first | refine blk_drewN ?_ _ | refine blk_drew ?_ | refine blk_alloc ?_ _)); exact BK450.out) hb); have n1_ := Aside0.mk (below_step (by repeat (first | (with_reducible first | exact HB.out | apply below_alloc | apply pw_below_drewN | apply below_drew1 | refine below_set ?_ GE450.out) | exact HB.out)) hb); clear BK450; clear HB; have BK450 := n0_; have HB := n1_; clear n0_ n1_; (try clear hb); (try clear hb2); (try clear hk); (try clear hi); have hcz18_0 : w17.cell? ⟨gb450, 0, none⟩ = some (.slice A0_0 l0_0.length c0_0) := (blk_cell BK450.out 0).trans rfl; have hcz18_1 : w17.cell? ⟨gb450, 1, none⟩ = some (.slice A0_1 l0_1.length c0_1) := (blk_cell BK450.out 1).trans rfl; have hfz18_0 := blk_frozen BK450.out 0; have hfz18_1 := blk_frozen BK450.out 1) | ((with_reducible refine gate_callee (f := 7) rfl ?_); refine goesL_ (some 13) rfl rfl Try.func7 (by kernel_rfl) rfl #[.agg #[.slice A0_0 l0_0.length c0_0, .slice A0_1 l0_1.length c0_1]] rfl (by (try simp only [List.map_toArray, List.map_cons, List.map_nil]); first | done | rfl | (simp only [List.length_drop, List.length_take]; rfl)) ?_; (with_reducible refine (laws_toUnit.calls k _ _ l0_0 _ _ l0_1 t452 t455 _ ?side1 ?side2 ?side3 ?side4 A7.out).mono ?_); (case side1 => repeat (first | exact (Kd.C_below HR0_0.out HB.out) | (with_reducible refine Kd.C_alloc ?_ _) | (with_reducible refine Kd.C_drewN ?_ _) | (with_reducible refine Kd.C_drew ?_))); (case side2 => exact HC0_0.out); (case side3 => repeat (first | exact (Kd.C_below HR0_1.out HB.out) | (with_reducible refine Kd.C_alloc ?_ _) | (with_reducible refine Kd.C_drewN ?_ _) | (with_reducible refine Kd.C_drew ?_))); (case side4 => exact HC0_1.out); rintro e w19 ⟨v453, v456, rfl, ho0, ho1, hb⟩; refine ⟨_, rfl, ?_⟩; have n0_ := Aside0.mk (Kd.S_lower ho0 (below_size (by repeat (first | (with_reducible first | exact HB.out | apply below_alloc | apply pw_below_drewN | apply below_drew1 | refine below_set ?_ GE450.out) | exact HB.out)))); have n1_ := Aside0.mk (Kd.R_lower ho1 (below_size (by repeat (first | (with_reducible first | exact HB.out | apply below_alloc | apply pw_below_drewN | apply below_drew1 | refine below_set ?_ GE450.out) | exact HB.out)))); have n2_ := Aside0.mk (blk_below (g := gb450) (o := .cells #[.slice A0_0 l0_0.length c0_0, .slice A0_1 l0_1.length c0_1] 25 (0, 0)) (by (with_reducible repeat (first | refine blk_drewN ?_ _ | refine blk_drew ?_ | refine blk_alloc ?_ _)); exact BK450.out) hb); have n3_ := Aside0.mk (below_step (by repeat (first | (with_reducible first | exact HB.out | apply below_alloc | apply pw_below_drewN | apply below_drew1 | refine below_set ?_ GE450.out) | exact HB.out)) hb); clear BK450; clear HB; have HO454 := n0_; have HO457 := n1_; have BK450 := n2_; have HB := n3_; clear n0_ n1_ n2_ n3_; (try clear hb); (try clear hb2); (try clear hk); (try clear hi); (try clear ho0); (try clear ho1); obtain ⟨Ao20, co20, eo20⟩ := Kd.S_slice HO454.out; subst eo20; obtain ⟨Ao21, co21, eo21⟩ := Kd.R_slice HO457.out; subst eo21) | ((with_reducible refine gate_callee (f := 6) rfl ?_); refine goesL_ (some 14) rfl rfl Try.func6 (by kernel_rfl) rfl #[.agg #[.slice Ao20 t452.length co20, .slice Ao21 t455.length co21]] rfl (by (try simp only [List.map_toArray, List.map_cons, List.map_nil]); first | done | rfl | (simp only [List.length_drop, List.length_take]; rfl)) ?_; (with_reducible refine (spec_UnitOk.calls k _ _ t452 _ _ t455 t458 _ ?side1 ?side2 ?side3 ?side4 A8.out).mono ?_); (case side1 => repeat (first | exact (Kd.S_reads' HO454.out).2.2 | (with_reducible refine Kd.C_alloc ?_ _) | (with_reducible refine Kd.C_drewN ?_ _) | (with_reducible refine Kd.C_drew ?_))); (case side2 => exact (Kd.S_reads' HO454.out).2.1); (case side3 => repeat (first | exact (Kd.R_reads' HO457.out).2.2 | (with_reducible refine Kd.C_alloc ?_ _) | (with_reducible refine Kd.C_drewN ?_ _) | (with_reducible refine Kd.C_drew ?_))); (case side4 => exact (Kd.R_reads' HO457.out).2.1); rintro e w22 ⟨rfl, hb⟩; refine ⟨_, rfl, ?_⟩; have n0_ := Aside0.mk (Kd.S_below (by (with_reducible repeat (first | apply Kd.S_alloc | apply Kd.S_drewN | apply Kd.S_drew)); exact HO454.out) hb); have n1_ := Aside0.mk (Kd.R_below (by (with_reducible repeat (first | apply Kd.R_alloc | apply Kd.R_drewN | apply Kd.R_drew)); exact HO457.out) hb); have n2_ := Aside0.mk (blk_below (g := gb450) (o := .cells #[.slice A0_0 l0_0.length c0_0, .slice A0_1 l0_1.length c0_1] 25 (0, 0)) (by (with_reducible repeat (first | refine blk_drewN ?_ _ | refine blk_drew ?_ | refine blk_alloc ?_ _)); exact BK450.out) hb); have n3_ := Aside0.mk (below_step (by repeat (first | (with_reducible first | exact HB.out | apply below_alloc | apply pw_below_drewN | apply below_drew1 | refine below_set ?_ GE450.out) | exact HB.out)) hb); clear HO454; clear HO457; clear BK450; clear HB; have HO454 := n0_; have HO457 := n1_; have BK450 := n2_; have HB := n3_; clear n0_ n1_ n2_ n3_; (try clear hb); (try clear hb2); (try clear hk); (try clear hi); have hcz23_0 : w22.cell? ⟨gb450, 0, none⟩ = some (.slice A0_0 l0_0.length c0_0) := (blk_cell BK450.out 0).trans rfl; have hcz23_1 : w22.cell? ⟨gb450, 1, none⟩ = some (.slice A0_1 l0_1.length c0_1) := (blk_cell BK450.out 1).trans rfl; have hfz23_0 := blk_frozen BK450.out 0; have hfz23_1 := blk_frozen BK450.out 1) | ((with_reducible refine gate_callee (f := 7) rfl ?_); refine goesL_ (some 16) rfl rfl Try.func7 (by kernel_rfl) rfl #[.agg #[.slice A0_0 l0_0.length c0_0, .slice A0_1 l0_1.length c0_1]] rfl (by (try simp only [List.map_toArray, List.map_cons, List.map_nil]); first | done | rfl | (simp only [List.length_drop, List.length_take]; rfl)) ?_; (with_reducible refine (laws_toUnit.calls k _ _ l0_0 _ _ l0_1 t459 t462 _ ?side1 ?side2 ?side3 ?side4 A9.out).mono ?_); (case side1 => repeat (first | exact (Kd.C_below HR0_0.out HB.out) | (with_reducible refine Kd.C_alloc ?_ _) | (with_reducible refine Kd.C_drewN ?_ _) | (with_reducible refine Kd.C_drew ?_))); (case side2 => exact HC0_0.out); (case side3 => repeat (first | exact (Kd.C_below HR0_1.out HB.out) | (with_reducible refine Kd.C_alloc ?_ _) | (with_reducible refine Kd.C_drewN ?_ _) | (with_reducible refine Kd.C_drew ?_))); (case side4 => exact HC0_1.out); rintro e w24 ⟨v460, v463, rfl, ho0, ho1, hb⟩; refine ⟨_, rfl, ?_⟩; have n0_ := Aside0.mk (Kd.S_elder' (by (with_reducible repeat (first | apply Kd.S_alloc | apply Kd.S_drewN | apply Kd.S_drew)); exact HO454.out) (Kd.S_base ho0) hb); have n1_ := Aside0.mk (Kd.R_elder' (by (with_reducible repeat (first | apply Kd.R_alloc | apply Kd.R_drewN | apply Kd.R_drew)); exact HO457.out) (Kd.R_base ho1) hb); have n2_ := Aside0.mk (Kd.S_lower (Kd.S_new' ho0 (Kd.S_lt (by (with_reducible repeat (first | apply Kd.S_alloc | apply Kd.S_drewN | apply Kd.S_drew)); exact HO454.out))) (below_size (by repeat (first | (with_reducible first | exact HB.out | apply below_alloc | apply pw_below_drewN | apply below_drew1 | refine below_set ?_ GE450.out) | exact HB.out)))); have n3_ := Aside0.mk (Kd.R_lower (Kd.R_new' ho1 (Kd.R_lt (by (with_reducible repeat (first | apply Kd.R_alloc | apply Kd.R_drewN | apply Kd.R_drew)); exact HO457.out))) (below_size (by repeat (first | (with_reducible first | exact HB.out | apply below_alloc | apply pw_below_drewN | apply below_drew1 | refine below_set ?_ GE450.out) | exact HB.out)))); have n4_ := Aside0.mk (blk_below (g := gb450) (o := .cells #[.slice A0_0 l0_0.length c0_0, .slice A0_1 l0_1.length c0_1] 25 (0, 0)) (by (with_reducible repeat (first | refine blk_drewN ?_ _ | refine blk_drew ?_ | refine blk_alloc ?_ _)); exact BK450.out) hb); have n5_ := Aside0.mk (below_step (by repeat (first | (with_reducible first | exact HB.out | apply below_alloc | apply pw_below_drewN | apply below_drew1 | refine below_set ?_ GE450.out) | exact HB.out)) hb); clear HO454; clear HO457; clear BK450; clear HB; have HO454 := n0_; have HO457 := n1_; have HO461 := n2_; have HO464 := n3_; have BK450 := n4_; have HB := n5_; clear n0_ n1_ n2_ n3_ n4_ n5_; (try clear hb); (try clear hb2); (try clear hk); (try clear hi); (try clear ho0); (try clear ho1)) | ((with_reducible refine gate_dst (N := 5) rfl ?_); refine box_event ?hg (N := 5) ?hd (cs := #[.slice none 0 0, .slice none 0 0]) (t := 31) ?hr ?_; (case hd => rfl); (case hg => rfl); (case hr => first | (go_simp; done) | (go_simp; rfl)); intro gb465 hg w25 hbox hb; have n0_ := Aside0.mk (Kd.S_below (by (with_reducible repeat (first | apply Kd.S_alloc | apply Kd.S_drewN | apply Kd.S_drew)); exact HO454.out) hb); have n1_ := Aside0.mk (Kd.R_below (by (with_reducible repeat (first | apply Kd.R_alloc | apply Kd.R_drewN | apply Kd.R_drew)); exact HO457.out) hb); have n2_ := Aside0.mk (Kd.S_below (by (with_reducible repeat (first | apply Kd.S_alloc | apply Kd.S_drewN | apply Kd.S_drew)); exact HO461.out) hb); have n3_ := Aside0.mk (Kd.R_below (by (with_reducible repeat (first | apply Kd.R_alloc | apply Kd.R_drewN | apply Kd.R_drew)); exact HO464.out) hb); have n4_ := Aside0.mk (blk_below (g := gb450) (o := .cells #[.slice A0_0 l0_0.length c0_0, .slice A0_1 l0_1.length c0_1] 25 (0, 0)) (by (with_reducible repeat (first | refine blk_drewN ?_ _ | refine blk_drew ?_ | refine blk_alloc ?_ _)); exact BK450.out) hb); have n5_ := Aside0.mk (below_step (by repeat (first | (with_reducible first | exact HB.out | apply below_alloc | apply pw_below_drewN | apply below_drew1 | refine below_set ?_ GE450.out) | exact HB.out)) hb); have n6_ := Aside0.mk (hbox); have n7_ := Aside0.mk ((by rw [hg]; exact (below_size (by repeat (first | (with_reducible first | exact HB.out | apply below_alloc | apply pw_below_drewN | apply below_drew1 | refine below_set ?_ GE450.out) | exact HB.out))) : w.heap.size ≤ gb465)); have n8_ := Aside0.mk ((by rw [hg]; exact (below_size (by repeat (first | (with_reducible first | exact HB.out | apply below_alloc | apply pw_below_drewN | apply below_drew1 | refine below_set ?_ GE450.out) | exact HB.out))) : w.heap.size ≤ gb465)); have n9_ := Aside0.mk ((by rw [hg]; exact Nat.ne_of_lt (blk_lt (g := gb450) (o := .cells #[.slice A0_0 l0_0.length c0_0, .slice A0_1 l0_1.length c0_1] 25 (0, 0)) (by (with_reducible repeat (first | refine blk_drewN ?_ _ | refine blk_drew ?_ | refine blk_alloc ?_ _)); exact BK450.out)) : gb450 ≠ gb465)); have n10_ := Aside0.mk ((by rw [hg]; exact Nat.ne_of_gt (blk_lt (g := gb450) (o := .cells #[.slice A0_0 l0_0.length c0_0, .slice A0_1 l0_1.length c0_1] 25 (0, 0)) (by (with_reducible repeat (first | refine blk_drewN ?_ _ | refine blk_drew ?_ | refine blk_alloc ?_ _)); exact BK450.out)) : gb465 ≠ gb450)); clear HO454; clear HO457; clear HO461; clear HO464; clear BK450; clear HB; have HO454 := n0_; have HO457 := n1_; have HO461 := n2_; have HO464 := n3_; have BK450 := n4_; have HB := n5_; have BK465 := n6_; have GW465 := n7_; have GE465 := n8_; have NB450_465 := n9_; have NB465_450 := n10_; clear n0_ n1_ n2_ n3_ n4_ n5_ n6_ n7_ n8_ n9_ n10_; clear hb hbox hg; obtain ⟨Ao26, co26, eo26⟩ := Kd.S_slice HO461.out; subst eo26; have hnb27 := NB465_450.out; have hnc27 := NB450_465.out; have hcz28_0 : w25.cell? ⟨gb465, 0, none⟩ = some (.slice none 0 0) := (blk_cell BK465.out 0).trans rfl; have hcz28_1 : w25.cell? ⟨gb465, 1, none⟩ = some (.slice none 0 0) := (blk_cell BK465.out 1).trans rfl; have hfz28_0 := blk_frozen BK465.out 0; have hfz28_1 := blk_frozen BK465.out 1; obtain ⟨Ao29, co29, eo29⟩ := Kd.R_slice HO464.out; subst eo29) | ((with_reducible refine gate_callee (f := 8) rfl ?_); refine goesL_ (some 18) rfl rfl Try.func8 (by kernel_rfl) rfl #[.agg #[.slice Ao26 t459.length co26, .slice Ao29 t462.length co29]] rfl (by (try simp only [List.map_toArray, List.map_cons, List.map_nil]); first | done | rfl | (simp only [List.length_drop, List.length_take]; rfl)) ?_; (with_reducible refine (impl_UnitOk.calls k _ _ t459 _ _ t462 t466 _ ?side1 ?side2 ?side3 ?side4 A10.out).mono ?_); (case side1 => refine (Kd.S_reads' (e := 76) (base := w.heap.size) (ok := fun k_ => (True ∧ some k_ ≠ (.slice Ao20 t452.length co20 : Value).ownBlock)) (n := t459.length) (c := co26) ?_).2.2; exact (by (with_reducible repeat (first | apply Kd.S_alloc | apply Kd.S_drewN | apply Kd.S_drew)); exact (Kd.S_mono (Kd.S_far (p := ⟨gb465, 1, none⟩) (Kd.S_far (p := ⟨gb465, 0, none⟩) (Kd.S_types HO461.out BK465.out (by decide)) (fun _ hk => hk.2) (.slice Ao26 t459.length co26)) (fun _ hk => hk.2) (.slice Ao29 t462.length co29)) (fun _ h_ => h_.1)))); (case side2 => exact (Kd.S_reads' HO461.out).2.1); (case side3 => refine (Kd.R_reads' (e := 46) (base := w.heap.size) (ok := fun k_ => (True ∧ some k_ ≠ (.slice Ao21 t455.length co21 : Value).ownBlock)) (n := t462.length) (c := co29) ?_).2.2; exact (by (with_reducible repeat (first | apply Kd.R_alloc | apply Kd.R_drewN | apply Kd.R_drew)); exact (Kd.R_mono (Kd.R_far (p := ⟨gb465, 1, none⟩) (Kd.R_far (p := ⟨gb465, 0, none⟩) (Kd.R_types HO464.out BK465.out (by decide)) (fun _ hk => hk.2) (.slice Ao26 t459.length co26)) (fun _ hk => hk.2) (.slice Ao29 t462.length co29)) (fun _ h_ => h_.1)))); (case side4 => exact (Kd.R_reads' HO464.out).2.1); rintro e w30 ⟨rfl, hb⟩; refine ⟨_, rfl, ?_⟩; have n0_ := Aside0.mk (Kd.S_below (by (with_reducible repeat (first | apply Kd.S_alloc | apply Kd.S_drewN | apply Kd.S_drew)); exact (Kd.S_mono (Kd.S_far (p := ⟨gb465, 1, none⟩) (Kd.S_far (p := ⟨gb465, 0, none⟩) (Kd.S_types HO454.out BK465.out (by decide)) (fun _ hk => hk.2) (.slice Ao26 t459.length co26)) (fun _ hk => hk.2) (.slice Ao29 t462.length co29)) (fun _ h_ => h_.1))) hb); have n1_ := Aside0.mk (Kd.R_below (by (with_reducible repeat (first | apply Kd.R_alloc | apply Kd.R_drewN | apply Kd.R_drew)); exact (Kd.R_mono (Kd.R_far (p := ⟨gb465, 1, none⟩) (Kd.R_far (p := ⟨gb465, 0, none⟩) (Kd.R_types HO457.out BK465.out (by decide)) (fun _ hk => hk.2) (.slice Ao26 t459.length co26)) (fun _ hk => hk.2) (.slice Ao29 t462.length co29)) (fun _ h_ => h_.1))) hb); have n2_ := Aside0.mk (Kd.S_below (by (with_reducible repeat (first | apply Kd.S_alloc | apply Kd.S_drewN | apply Kd.S_drew)); exact (Kd.S_mono (Kd.S_far (p := ⟨gb465, 1, none⟩) (Kd.S_far (p := ⟨gb465, 0, none⟩) (Kd.S_types HO461.out BK465.out (by decide)) (fun _ hk => hk.2) (.slice Ao26 t459.length co26)) (fun _ hk => hk.2) (.slice Ao29 t462.length co29)) (fun _ h_ => h_.1))) hb); have n3_ := Aside0.mk (Kd.R_below (by (with_reducible repeat (first | apply Kd.R_alloc | apply Kd.R_drewN | apply Kd.R_drew)); exact (Kd.R_mono (Kd.R_far (p := ⟨gb465, 1, none⟩) (Kd.R_far (p := ⟨gb465, 0, none⟩) (Kd.R_types HO464.out BK465.out (by decide)) (fun _ hk => hk.2) (.slice Ao26 t459.length co26)) (fun _ hk => hk.2) (.slice Ao29 t462.length co29)) (fun _ h_ => h_.1))) hb); have n4_ := Aside0.mk (blk_below (g := gb450) (o := .cells #[.slice A0_0 l0_0.length c0_0, .slice A0_1 l0_1.length c0_1] 25 (0, 0)) (by (with_reducible repeat (first | refine blk_drewN ?_ _ | refine blk_drew ?_ | refine blk_alloc ?_ _)); refine blk_far ?_ NB450_465.out _; (with_reducible repeat (first | refine blk_drewN ?_ _ | refine blk_drew ?_ | refine blk_alloc ?_ _)); refine blk_far ?_ NB450_465.out _; (with_reducible repeat (first | refine blk_drewN ?_ _ | refine blk_drew ?_ | refine blk_alloc ?_ _)); exact BK450.out) hb); have n5_ := Aside0.mk (blk_below (g := gb465) (o := .cells #[.slice Ao26 t459.length co26, .slice Ao29 t462.length co29] 31 (0, 0)) (by (with_reducible repeat (first | refine blk_drewN ?_ _ | refine blk_drew ?_ | refine blk_alloc ?_ _)); refine blk_put (cs := #[.slice Ao26 t459.length co26, .slice none 0 0]) ?_ 1 _ rfl; (with_reducible repeat (first | refine blk_drewN ?_ _ | refine blk_drew ?_ | refine blk_alloc ?_ _)); refine blk_put (cs := #[.slice none 0 0, .slice none 0 0]) ?_ 0 _ rfl; (with_reducible repeat (first | refine blk_drewN ?_ _ | refine blk_drew ?_ | refine blk_alloc ?_ _)); exact BK465.out) hb); have n6_ := Aside0.mk (below_step (by repeat (first | (with_reducible first | exact HB.out | apply below_alloc | apply pw_below_drewN | apply below_drew1 | refine below_set ?_ GE450.out | refine below_set ?_ GE465.out) | exact HB.out)) hb); clear HO454; clear HO457; clear HO461; clear HO464; clear BK450; clear BK465; clear HB; have HO454 := n0_; have HO457 := n1_; have HO461 := n2_; have HO464 := n3_; have BK450 := n4_; have BK465 := n5_; have HB := n6_; clear n0_ n1_ n2_ n3_ n4_ n5_ n6_; (try clear hb); (try clear hb2); (try clear hk); (try clear hi)))
        have n0_ := Aside0.mk (Kd.S_drew HO454.out)
        have n1_ := Aside0.mk (Kd.R_drew HO457.out)
        have n2_ := Aside0.mk (Kd.S_drew HO461.out)
        have n3_ := Aside0.mk (Kd.R_drew HO464.out)
        have n4_ := Aside0.mk (blk_drew BK450.out)
        have n5_ := Aside0.mk (blk_drew BK465.out)
        have n6_ := Aside0.mk (below_drew1 HB.out)
        clear HO454
        clear HO457
        clear HO461
        clear HO464
        clear BK450
        clear BK465
        clear HB
        have HO454 := n0_
        have HO457 := n1_
        have HO461 := n2_
        have HO464 := n3_
        have BK450 := n4_
        have BK465 := n5_
        have HB := n6_
        clear n0_ n1_ n2_ n3_ n4_ n5_ n6_
        refine start_ (n := 5) (S := fun w' => w'.cell? ⟨gb465, 0, none⟩ = some (.slice Ao26 t459.length co26) ∧ w'.cell? ⟨gb465, 1, none⟩ = some (.slice Ao29 t462.length co29) ∧ w'.cell? ⟨gb450, 0, none⟩ = some (.slice A0_0 l0_0.length c0_0) ∧ w'.cell? ⟨gb450, 1, none⟩ = some (.slice A0_1 l0_1.length c0_1)) (ds := []) #[false, false, false, false, false] (by kernel_rfl) rfl rfl ⟨(blk_cell BK465.out 0).trans rfl, (blk_cell BK465.out 1).trans rfl, (blk_cell BK450.out 0).trans rfl, (blk_cell BK450.out 1).trans rfl⟩ (fun hHeld => ?_)
        generalize w30.drew = w31 at HO454 HO457 HO461 HO464 BK450 BK465 HB hHeld ⊢
        refine take_ (i := 0) (N := some 22) (v := ?_) (a' := ?_) #[true, false, false, false, false] rfl rfl (by kernel_rfl) (fun _ _ _ h => h) (Or.inl ⟨by rfl, ?_⟩) hHeld ?_ ?_
        rotate_left
        · rintro w' ⟨s0, s1, s2, s3⟩
          go_simp
          with_reducible rfl
        rotate_left
        · simp only [Act.put, List.setIfInBounds_toArray, List.set_cons_zero, List.set_cons_succ, i64_w, i32_w]
          rfl
        refine take_ (i := 1) (N := some 23) (v := ?_) (a' := ?_) #[true, true, false, false, false] rfl rfl (by kernel_rfl) (fun _ _ _ h => h) (Or.inl ⟨by rfl, ?_⟩) hHeld ?_ ?_
        rotate_left
        · rintro w' ⟨s0, s1, s2, s3⟩
          go_simp
          with_reducible rfl
        rotate_left
        · simp only [Act.put, List.setIfInBounds_toArray, List.set_cons_zero, List.set_cons_succ, i64_w, i32_w]
          rfl
        refine one_ (i := 2) (N := some 24) #[true, true, true, false, false] rfl rfl (by kernel_rfl) (by decide) (fun K hK => ?_)
        refine goes_ Try.func7 (by kernel_rfl) rfl #[.agg #[.slice A0_0 l0_0.length c0_0, .slice A0_1 l0_1.length c0_1]] (by rfl) rfl rfl (by (try simp only [List.map_toArray, List.map_cons, List.map_nil]); first | done | rfl | (simp only [List.length_drop, List.length_take]; rfl)) ?_
        with_reducible refine (laws_toUnit.calls k _ _ l0_0 _ _ l0_1 t467 t470 _ ?side1 ?side2 ?side3 ?side4 A12.out).mono ?_
        (case side1 => repeat (first | exact (Kd.C_below HR0_0.out HB.out) | (with_reducible refine Kd.C_alloc ?_ _) | (with_reducible refine Kd.C_drewN ?_ _) | (with_reducible refine Kd.C_drew ?_)))
        (case side2 => exact HC0_0.out)
        (case side3 => repeat (first | exact (Kd.C_below HR0_1.out HB.out) | (with_reducible refine Kd.C_alloc ?_ _) | (with_reducible refine Kd.C_drewN ?_ _) | (with_reducible refine Kd.C_drew ?_)))
        (case side4 => exact HC0_1.out)
        rintro e w32 ⟨v468, v471, rfl, ho0, ho1, hb⟩
        refine ⟨_, rfl, ?_⟩
        have n0_ := Aside0.mk (Kd.S_elder' (by (with_reducible repeat (first | apply Kd.S_alloc | apply Kd.S_drewN | apply Kd.S_drew)); exact HO454.out) (Kd.S_base ho0) hb)
        have n1_ := Aside0.mk (Kd.R_elder' (by (with_reducible repeat (first | apply Kd.R_alloc | apply Kd.R_drewN | apply Kd.R_drew)); exact HO457.out) (Kd.R_base ho1) hb)
        have n2_ := Aside0.mk (Kd.S_elder' (by (with_reducible repeat (first | apply Kd.S_alloc | apply Kd.S_drewN | apply Kd.S_drew)); exact HO461.out) (Kd.S_base ho0) hb)
        have n3_ := Aside0.mk (Kd.R_elder' (by (with_reducible repeat (first | apply Kd.R_alloc | apply Kd.R_drewN | apply Kd.R_drew)); exact HO464.out) (Kd.R_base ho1) hb)
        have n4_ := Aside0.mk (Kd.S_lower (Kd.S_new' (Kd.S_new' ho0 (Kd.S_lt (by (with_reducible repeat (first | apply Kd.S_alloc | apply Kd.S_drewN | apply Kd.S_drew)); exact HO454.out))) (Kd.S_lt (by (with_reducible repeat (first | apply Kd.S_alloc | apply Kd.S_drewN | apply Kd.S_drew)); exact HO461.out))) (below_size (by repeat (first | (with_reducible first | exact HB.out | apply below_alloc | apply pw_below_drewN | apply below_drew1 | refine below_set ?_ GE450.out | refine below_set ?_ GE465.out) | exact HB.out))))
        have n5_ := Aside0.mk (Kd.R_lower (Kd.R_new' (Kd.R_new' ho1 (Kd.R_lt (by (with_reducible repeat (first | apply Kd.R_alloc | apply Kd.R_drewN | apply Kd.R_drew)); exact HO457.out))) (Kd.R_lt (by (with_reducible repeat (first | apply Kd.R_alloc | apply Kd.R_drewN | apply Kd.R_drew)); exact HO464.out))) (below_size (by repeat (first | (with_reducible first | exact HB.out | apply below_alloc | apply pw_below_drewN | apply below_drew1 | refine below_set ?_ GE450.out | refine below_set ?_ GE465.out) | exact HB.out))))
        have n6_ := Aside0.mk (blk_below (g := gb450) (o := .cells #[.slice A0_0 l0_0.length c0_0, .slice A0_1 l0_1.length c0_1] 25 (0, 0)) (by (with_reducible repeat (first | refine blk_drewN ?_ _ | refine blk_drew ?_ | refine blk_alloc ?_ _)); exact BK450.out) hb)
        have n7_ := Aside0.mk (blk_below (g := gb465) (o := .cells #[.slice Ao26 t459.length co26, .slice Ao29 t462.length co29] 31 (0, 0)) (by (with_reducible repeat (first | refine blk_drewN ?_ _ | refine blk_drew ?_ | refine blk_alloc ?_ _)); exact BK465.out) hb)
        have n8_ := Aside0.mk (below_step (by repeat (first | (with_reducible first | exact HB.out | apply below_alloc | apply pw_below_drewN | apply below_drew1 | refine below_set ?_ GE450.out | refine below_set ?_ GE465.out) | exact HB.out)) hb)
        clear HO454
        clear HO457
        clear HO461
        clear HO464
        clear BK450
        clear BK465
        clear HB
        have HO454 := n0_
        have HO457 := n1_
        have HO461 := n2_
        have HO464 := n3_
        have HO469 := n4_
        have HO472 := n5_
        have BK450 := n6_
        have BK465 := n7_
        have HB := n8_
        clear n0_ n1_ n2_ n3_ n4_ n5_ n6_ n7_ n8_
        (try clear hb)
        (try clear hb2)
        (try clear hk)
        (try clear hi)
        (try clear ho0)
        (try clear ho1)
        obtain ⟨Ao33, co33, eo33⟩ := Kd.S_slice HO469.out
        (first | subst eo33 | (injection eo33 with f1_ f2_ f3_; have f4_ := f1_.symm; have f5_ := f3_.symm; clear f1_ f2_ f3_; subst f4_; subst f5_))
        obtain ⟨Ao34, co34, eo34⟩ := Kd.R_slice HO472.out
        (first | subst eo34 | (injection eo34 with f1_ f2_ f3_; have f4_ := f1_.symm; have f5_ := f3_.symm; clear f1_ f2_ f3_; subst f4_; subst f5_))
        refine hK.out _ _ ⟨(blk_cell BK465.out 0).trans rfl, (blk_cell BK465.out 1).trans rfl, (blk_cell BK450.out 0).trans rfl, (blk_cell BK450.out 1).trans rfl⟩ (fun hHeld => ?_)
        clear hK K
        refine norm_ (a' := ?_) ?_ ?_
        rotate_left
        · show Act.put _ (some 24) _ = _
          simp only [Act.put, List.setIfInBounds_toArray, List.set_cons_zero, List.set_cons_succ, i64_w, i32_w]
          rfl
        refine one_ (i := 3) (N := some 25) #[true, true, true, true, false] rfl rfl (by kernel_rfl) (by decide) (fun K hK => ?_)
        refine goes_ Try.func9 (by kernel_rfl) rfl #[.agg #[.slice Ao26 t459.length co26, .slice Ao29 t462.length co29], .agg #[.slice Ao33 t467.length co33, .slice Ao34 t470.length co34]] (by rfl) rfl rfl (by (try simp only [List.map_toArray, List.map_cons, List.map_nil]); first | done | rfl | (simp only [List.length_drop, List.length_take]; rfl)) ?_
        with_reducible refine (laws_eqUnit.calls k _ _ t459 _ _ t462 _ _ t467 _ _ t470 true _ ?side1 ?side2 ?side3 ?side4 ?side5 ?side6 ?side7 ?side8 A13.out).mono ?_
        (case side1 => repeat (first | exact (Kd.S_reads' HO461.out).2.2 | (with_reducible refine Kd.C_alloc ?_ _) | (with_reducible refine Kd.C_drewN ?_ _) | (with_reducible refine Kd.C_drew ?_)))
        (case side2 => exact (Kd.S_reads' HO461.out).2.1)
        (case side3 => repeat (first | exact (Kd.R_reads' HO464.out).2.2 | (with_reducible refine Kd.C_alloc ?_ _) | (with_reducible refine Kd.C_drewN ?_ _) | (with_reducible refine Kd.C_drew ?_)))
        (case side4 => exact (Kd.R_reads' HO464.out).2.1)
        (case side5 => repeat (first | exact (Kd.S_reads' HO469.out).2.2 | (with_reducible refine Kd.C_alloc ?_ _) | (with_reducible refine Kd.C_drewN ?_ _) | (with_reducible refine Kd.C_drew ?_)))
        (case side6 => exact (Kd.S_reads' HO469.out).2.1)
        (case side7 => repeat (first | exact (Kd.R_reads' HO472.out).2.2 | (with_reducible refine Kd.C_alloc ?_ _) | (with_reducible refine Kd.C_drewN ?_ _) | (with_reducible refine Kd.C_drew ?_)))
        (case side8 => exact (Kd.R_reads' HO472.out).2.1)
        rintro e w35 ⟨rfl, hb⟩
        refine ⟨_, rfl, ?_⟩
        have n0_ := Aside0.mk (Kd.S_below (by (with_reducible repeat (first | apply Kd.S_alloc | apply Kd.S_drewN | apply Kd.S_drew)); exact HO454.out) hb)
        have n1_ := Aside0.mk (Kd.R_below (by (with_reducible repeat (first | apply Kd.R_alloc | apply Kd.R_drewN | apply Kd.R_drew)); exact HO457.out) hb)
        have n2_ := Aside0.mk (Kd.S_below (by (with_reducible repeat (first | apply Kd.S_alloc | apply Kd.S_drewN | apply Kd.S_drew)); exact HO461.out) hb)
        have n3_ := Aside0.mk (Kd.R_below (by (with_reducible repeat (first | apply Kd.R_alloc | apply Kd.R_drewN | apply Kd.R_drew)); exact HO464.out) hb)
        have n4_ := Aside0.mk (Kd.S_below (by (with_reducible repeat (first | apply Kd.S_alloc | apply Kd.S_drewN | apply Kd.S_drew)); exact HO469.out) hb)
        have n5_ := Aside0.mk (Kd.R_below (by (with_reducible repeat (first | apply Kd.R_alloc | apply Kd.R_drewN | apply Kd.R_drew)); exact HO472.out) hb)
        have n6_ := Aside0.mk (blk_below (g := gb450) (o := .cells #[.slice A0_0 l0_0.length c0_0, .slice A0_1 l0_1.length c0_1] 25 (0, 0)) (by (with_reducible repeat (first | refine blk_drewN ?_ _ | refine blk_drew ?_ | refine blk_alloc ?_ _)); exact BK450.out) hb)
        have n7_ := Aside0.mk (blk_below (g := gb465) (o := .cells #[.slice Ao26 t459.length co26, .slice Ao29 t462.length co29] 31 (0, 0)) (by (with_reducible repeat (first | refine blk_drewN ?_ _ | refine blk_drew ?_ | refine blk_alloc ?_ _)); exact BK465.out) hb)
        have n8_ := Aside0.mk (below_step (by repeat (first | (with_reducible first | exact HB.out | apply below_alloc | apply pw_below_drewN | apply below_drew1 | refine below_set ?_ GE450.out | refine below_set ?_ GE465.out) | exact HB.out)) hb)
        clear HO454
        clear HO457
        clear HO461
        clear HO464
        clear HO469
        clear HO472
        clear BK450
        clear BK465
        clear HB
        have HO454 := n0_
        have HO457 := n1_
        have HO461 := n2_
        have HO464 := n3_
        have HO469 := n4_
        have HO472 := n5_
        have BK450 := n6_
        have BK465 := n7_
        have HB := n8_
        clear n0_ n1_ n2_ n3_ n4_ n5_ n6_ n7_ n8_
        (try clear hb)
        (try clear hb2)
        (try clear hk)
        (try clear hi)
        refine hK.out _ _ ⟨(blk_cell BK465.out 0).trans rfl, (blk_cell BK465.out 1).trans rfl, (blk_cell BK450.out 0).trans rfl, (blk_cell BK450.out 1).trans rfl⟩ (fun hHeld => ?_)
        clear hK K
        refine norm_ (a' := ?_) ?_ ?_
        rotate_left
        · show Act.put _ (some 25) _ = _
          simp only [Act.put, List.setIfInBounds_toArray, List.set_cons_zero, List.set_cons_succ, i64_w, i32_w]
          rfl
        refine pure_ (i := 4) (N := some 26) (v := ?_) (a' := ?_) #[true, true, true, true, true] rfl rfl (by kernel_rfl) (fun _ _ _ h => h) (Or.inl ⟨by rfl, ?_⟩) ?_ ?_
        rotate_left
        · intro w'
          go_simp
          with_reducible rfl
        rotate_left
        · simp only [Act.put, List.setIfInBounds_toArray, List.set_cons_zero, List.set_cons_succ, i64_w, i32_w]
          rfl
        refine done_ (by kernel_rfl) ?_
        try go_wp2
        go_ret
        exact ⟨by first | rfl | (simp [errW_none, errW_some] <;> rfl) | (simp [*, errW_none, errW_some] <;> rfl), by repeat (first | (with_reducible first | exact HB.out | apply below_alloc | apply pw_below_drewN | apply below_drew1 | refine below_set ?_ GE450.out | refine below_set ?_ GE465.out) | exact HB.out)⟩
      · replace c14 := Bool.eq_false_iff.mpr c14
        subst c14
        have H1 : (some false) = some r := by rw [if_neg (show ¬ (false = true) by decide)] at H; exact H
        clear H
        have H := H1
        clear H1
        obtain rfl := Option.some.inj H
        exact absurd hr_ (by decide)
end Go.Proofs.Ytedodaifpekahaa.P

end
section

namespace Go.Proofs.Ytedodaifpekahaa.Open
open Go Go.RowKit Go.ChangeShapes Go.WideShapes Go.Deep Go.Proofs.YtedodaifpekahaaW.PrintWords
set_option linter.unusedVariables false
set_option linter.unusedSectionVars false
theorem list_of {α : Type} {n : Nat} {p : Nat → α → Prop} (h : ∀ i, i < n → ∃ x, p i x) : ∃ xs : List α, xs.length = n ∧ ∀ i y, xs[i]? = some y → p i y := by
  induction n with
  | zero => exact ⟨[], rfl, fun i y hy => by simp at hy⟩
  | succ q ih =>
    obtain ⟨xs, hl, hxs⟩ := ih (fun i hi => h i (by omega))
    obtain ⟨z, hz⟩ := h q (by omega)
    refine ⟨xs ++ [z], by simp [hl], fun i y hy => ?_⟩
    by_cases hi : i < xs.length
    · rw [List.getElem?_append_left hi] at hy
      exact hxs i y hy
    · rw [List.getElem?_append_right (by omega)] at hy
      have hi2 : i = xs.length := by
        have := (List.getElem?_eq_some_iff.1 hy).1
        simp at this
        omega
      subst hi2
      simp at hy
      subst hy
      rw [hl]
      exact hz
section
variable {H : Type} {enc : TypeId × Value → H} {P : Program} {w : World} {base : Nat} {spare : Nat → Bool} {held : Bool}
def Opens {H : Type} (enc : TypeId × Value → H) (P : Program) (w : World) (base : Nat) (spare : Nat → Bool) (held : Bool) {α : Type} (t : TypeId) (d : Kd α) (wf : α → Prop) : Prop :=
  ∀ (fuel : Nat) (cs : List Value) (x : DataW H × List MemPlace), DataW.trod enc P w base spare held fuel t cs = some x → ∃ a, d.K w a cs ∧ wf a
theorem opens_int {k : IntKind} {t : TypeId} (hu : P.underlying t = some (.int k)) : Opens enc P w base spare held t (Kd.int k) (fun n => (Lit.int k n).wf = true) := by
  intro fuel cs x h
  obtain ⟨n, rfl, _, hw⟩ := DataW.trod_int hu h
  exact ⟨n, rfl, hw⟩
theorem opens_bool {t : TypeId} (hu : P.underlying t = some .bool) : Opens enc P w base spare held t Kd.bool (fun _ => True) := by
  intro fuel cs x h
  obtain ⟨b, rfl, _⟩ := DataW.trod_bool hu h
  exact ⟨b, rfl, trivial⟩
theorem cells_get {base n : Nat} {a : Addr} {cs : List Value} (h : w.cells? base a n = some cs) : cs.length = n ∧ ∀ i u, cs[i]? = some u → w.cell? (a.add i) = some u := by
  obtain ⟨hb, hl, hc⟩ := World.cells?_some h
  refine ⟨hl, fun i u hu => ?_⟩
  have hi : i < cs.length := (List.getElem?_eq_some_iff.1 hu).1
  rw [hc i (by omega), hu]
theorem opens_slice {α : Type} {d : Kd α} {wf : α → Prop} {t e : TypeId} (hu : P.underlying t = some (.slice e)) (hc : P.cellsOf e = d.sz) (ho : Opens enc P w base spare held e d wf) :
    Opens enc P w base spare held t (Kd.slice e d) (fun xs => xs.length ≤ 9223372036854775807 ∧ ∀ x ∈ xs, wf x) := by
  intro fuel cs x h
  rcases open_slice hu h with ⟨rfl, _⟩ | ⟨a, len, cap, m, n, D, Pl, rfl, _, hlc, hcm, hm, _, hel⟩
  · exact ⟨[], ⟨none, 0, rfl, Nat.le_refl 0, rfl, Nat.zero_le _, fun hp => absurd hp (Nat.lt_irrefl 0)⟩, Nat.zero_le _, fun x hx => by cases hx⟩
  · have hlm : len ≤ m := by rw [hm]; split <;> omega
    obtain ⟨xs, hxl, hxs⟩ := list_of (p := fun i y => ∃ c, w.cells? base (a.add (i * P.cellsOf e)) (P.cellsOf e) = some c ∧ d.K w y c ∧ wf y) (fun i hi => by
      obtain ⟨cs', h1, h2⟩ := hel i (by omega)
      obtain ⟨y, hy, hw⟩ := ho n cs' _ h2
      exact ⟨y, cs', h1, hy, hw⟩ : ∀ i, i < len → _)
    have hmax : len ≤ 9223372036854775807 := by unfold maxLen at hcm; omega
    subst hxl
    refine ⟨xs, ⟨some a, cap, rfl, hlc, rfl, hmax, fun _ => ⟨a, rfl, fun j p hj => ?_⟩⟩, hmax, fun y hy => ?_⟩
    · obtain ⟨c, h1, h2, _⟩ := hxs j p hj
      rw [hc] at h1
      obtain ⟨h3, h4⟩ := cells_get h1
      exact ⟨c, h3, h2, fun i u hu => by rw [← Go.Deep.add_add]; exact h4 i u hu⟩
    · obtain ⟨i, hi⟩ := List.getElem?_of_mem hy
      obtain ⟨_, _, _, h3⟩ := hxs i y hi
      exact h3
def OpensF {H : Type} (enc : TypeId × Value → H) (P : Program) (w : World) (base : Nat) (spare : Nat → Bool) (held : Bool) {β : Type} (fs : List Field) (off : Nat) (d : Kd β) (wf : β → Prop) : Prop :=
  ∀ (fuel : Nat) (cs : List Value), cs.length = off + d.sz → (∀ f ∈ fs, ∃ y, DataW.trod enc P w base spare held fuel f.type ((cs.drop f.offset).take (P.cellsOf f.type)) = some y) → ∃ b, d.K w b (cs.drop off) ∧ wf b
theorem opensF_one {α : Type} {d : Kd α} {wf : α → Prop} {f : Field} {off : Nat} (ho : f.offset = off) (hc : P.cellsOf f.type = d.sz) (h : Opens enc P w base spare held f.type d wf) : OpensF enc P w base spare held [f] off d wf := by
  intro fuel cs hl hf
  obtain ⟨y, hy⟩ := hf f (by simp)
  rw [ho, hc, List.take_of_length_le (by simp; omega)] at hy
  exact h fuel _ _ hy
theorem opensF_cons {α β : Type} {d : Kd α} {d2 : Kd β} {wf : α → Prop} {wf2 : β → Prop} {f : Field} {fs : List Field} {off off2 : Nat} (ho : f.offset = off) (hc : P.cellsOf f.type = d.sz) (h2 : off2 = off + d.sz)
    (h : Opens enc P w base spare held f.type d wf) (hr : OpensF enc P w base spare held fs off2 d2 wf2) : OpensF enc P w base spare held (f :: fs) off (Kd.pair d d2) (fun p => wf p.1 ∧ wf2 p.2) := by
  intro fuel cs hl hf
  have hl' : cs.length = off + (d.sz + d2.sz) := hl
  obtain ⟨y, hy⟩ := hf f (by simp)
  rw [ho, hc] at hy
  obtain ⟨a, ha, hwa⟩ := h fuel _ _ hy
  obtain ⟨b, hb, hwb⟩ := hr fuel cs (by omega) (fun g hg => hf g (by simp [hg]))
  refine ⟨(a, b), ⟨_, _, ?_, ha, hb⟩, hwa, hwb⟩
  rw [h2, ← List.drop_drop]
  exact (List.take_append_drop d.sz (cs.drop off)).symm
theorem opens_struct {α β : Type} {d : Kd β} {wf : β → Prop} {t : TypeId} {fs : Array Field} (hu : P.underlying t = some (.struct fs)) (hc : P.cellsOf t = d.sz) (h : OpensF enc P w base spare held fs.toList 0 d wf) (f : α → β) (g : β → α) (hfg : ∀ b, f (g b) = b) :
    Opens enc P w base spare held t (Kd.iso d f) (fun a => wf (f a)) := by
  intro fuel cs x hx
  obtain ⟨xs, n, _, _, hl, hxl, hfs⟩ := DataW.trod_struct hu hx
  obtain ⟨b, hb, hwb⟩ := h n cs (by omega) (fun q hq => by
    obtain ⟨i, hi⟩ := List.getElem?_of_mem hq
    rw [Array.getElem?_toList] at hi
    have hlt : i < xs.length := by rw [hxl]; exact (Array.getElem?_eq_some_iff.1 hi).1
    rw [hfs i q hi, List.getElem?_eq_getElem hlt]
    exact ⟨_, rfl⟩)
  exact ⟨g b, by show d.K w (f (g b)) cs; rw [hfg]; exact hb, by show wf (f (g b)); rw [hfg]; exact hwb⟩
theorem opens_arg {α : Type} {d : Kd α} {wf : α → Prop} {t : TypeId} {v : Value} {x : DataW H} {ps : List MemPlace} (h : DataW.Trod enc P w base spare held t v x ps) (ho : Opens enc P w base spare held t d wf) : ∃ a, d.K w a v.cells.toList ∧ wf a := by
  obtain ⟨fuel, hf⟩ := h
  exact ho fuel _ _ hf
end
end Go.Proofs.Ytedodaifpekahaa.Open

end
section

namespace Go.Proofs.Ytedodaifpekahaa.P
open Go.RowKit Go.Proofs.YtedodaifpekahaaW.PrintWords Go.Proofs.Ytedodaifpekahaa.Open
structure S25 where
  f0 : (List S58)
  f1 : (List S64)
def k25 : Kd S25 := Kd.iso (Kd.pair (Kd.slice 58 k58) (Kd.slice 64 k64)) (fun x : S25 => (x.f0, x.f1))
theorem k25_open {w : World} {x : S25} {cs : List Value} (h : k25.K w x cs) : ∃ A0 c0 A1 c1, cs = [.slice A0 x.f0.length c0, .slice A1 x.f1.length c1] ∧ x.f0.length ≤ c0 ∧ k58.C w A0 x.f0.length x.f0 ∧ x.f1.length ≤ c1 ∧ k64.C w A1 x.f1.length x.f1 := by
  obtain ⟨_, _, rfl, ⟨A0, c0, rfl, l0, g0⟩, ⟨A1, c1, rfl, l1, g1⟩⟩ := h
  exact ⟨A0, c0, A1, c1, rfl, l0, g0, l1, g1⟩
def wfS58 (x : S58) : Prop := ((Lit.int .i64 x.f0).wf = true) ∧ ((x.f1.length ≤ 9223372036854775807 ∧ ∀ y ∈ x.f1, (Lit.int .i64 y).wf = true))
theorem opens58 (H : Type) (enc : TypeId × Value → H) (w : World) (base : Nat) (spare : Nat → Bool) (held : Bool) : Opens enc Try.prog w base spare held 58 k58 wfS58 :=
  opens_struct Try.underlying58 (by kernel_rfl) (opensF_cons rfl (by kernel_rfl) rfl (opens_int Try.underlying3) (opensF_one rfl (by kernel_rfl) (opens_slice Try.underlying41 (by kernel_rfl) (opens_int Try.underlying3)))) (fun x : S58 => (x.f0, x.f1)) (fun p => ⟨p.1, p.2⟩) (fun _ => rfl)
def wfS113 (x : S113) : Prop := ((Lit.int .i64 x.f0).wf = true) ∧ ((Lit.int .i64 x.f1).wf = true) ∧ ((Lit.int .i64 x.f2).wf = true)
theorem opens113 (H : Type) (enc : TypeId × Value → H) (w : World) (base : Nat) (spare : Nat → Bool) (held : Bool) : Opens enc Try.prog w base spare held 113 k113 wfS113 :=
  opens_struct Try.underlying113 (by kernel_rfl) (opensF_cons rfl (by kernel_rfl) rfl (opens_int Try.underlying3) (opensF_cons rfl (by kernel_rfl) rfl (opens_int Try.underlying3) (opensF_one rfl (by kernel_rfl) (opens_int Try.underlying3)))) (fun x : S113 => (x.f0, (x.f1, x.f2))) (fun p => ⟨p.1, p.2.1, p.2.2⟩) (fun _ => rfl)
def wfS111 (x : S111) : Prop := (True) ∧ ((x.f1.length ≤ 9223372036854775807 ∧ ∀ y ∈ x.f1, (Lit.int .i64 y).wf = true)) ∧ ((x.f2.length ≤ 9223372036854775807 ∧ ∀ y ∈ x.f2, (Lit.int .i64 y).wf = true))
theorem opens111 (H : Type) (enc : TypeId × Value → H) (w : World) (base : Nat) (spare : Nat → Bool) (held : Bool) : Opens enc Try.prog w base spare held 111 k111 wfS111 :=
  opens_struct Try.underlying111 (by kernel_rfl) (opensF_cons rfl (by kernel_rfl) rfl (opens_bool Try.underlying4) (opensF_cons rfl (by kernel_rfl) rfl (opens_slice Try.underlying41 (by kernel_rfl) (opens_int Try.underlying3)) (opensF_one rfl (by kernel_rfl) (opens_slice Try.underlying41 (by kernel_rfl) (opens_int Try.underlying3))))) (fun x : S111 => (x.f0, (x.f1, x.f2))) (fun p => ⟨p.1, p.2.1, p.2.2⟩) (fun _ => rfl)
def wfS116 (x : S116) : Prop := ((Lit.int .i64 x.f0).wf = true) ∧ ((Lit.int .i64 x.f1).wf = true) ∧ ((Lit.int .i64 x.f2).wf = true) ∧ ((Lit.int .i64 x.f3).wf = true)
theorem opens116 (H : Type) (enc : TypeId × Value → H) (w : World) (base : Nat) (spare : Nat → Bool) (held : Bool) : Opens enc Try.prog w base spare held 116 k116 wfS116 :=
  opens_struct Try.underlying116 (by kernel_rfl) (opensF_cons rfl (by kernel_rfl) rfl (opens_int Try.underlying3) (opensF_cons rfl (by kernel_rfl) rfl (opens_int Try.underlying3) (opensF_cons rfl (by kernel_rfl) rfl (opens_int Try.underlying3) (opensF_one rfl (by kernel_rfl) (opens_int Try.underlying3))))) (fun x : S116 => (x.f0, (x.f1, (x.f2, x.f3)))) (fun p => ⟨p.1, p.2.1, p.2.2.1, p.2.2.2⟩) (fun _ => rfl)
def wfS64 (x : S64) : Prop := ((Lit.int .i64 x.f0).wf = true) ∧ ((Lit.int .i64 x.f1).wf = true) ∧ ((x.f2.length ≤ 9223372036854775807 ∧ ∀ y ∈ x.f2, (Lit.int .i64 y).wf = true)) ∧ ((Lit.int .i64 x.f3).wf = true) ∧ ((Lit.int .i64 x.f4).wf = true) ∧ ((x.f5.length ≤ 9223372036854775807 ∧ ∀ y ∈ x.f5, wfS113 y)) ∧ ((x.f6.length ≤ 9223372036854775807 ∧ ∀ y ∈ x.f6, wfS111 y)) ∧ ((x.f7.length ≤ 9223372036854775807 ∧ ∀ y ∈ x.f7, wfS116 y))
theorem opens64 (H : Type) (enc : TypeId × Value → H) (w : World) (base : Nat) (spare : Nat → Bool) (held : Bool) : Opens enc Try.prog w base spare held 64 k64 wfS64 :=
  opens_struct Try.underlying64 (by kernel_rfl) (opensF_cons rfl (by kernel_rfl) rfl (opens_int Try.underlying3) (opensF_cons rfl (by kernel_rfl) rfl (opens_int Try.underlying3) (opensF_cons rfl (by kernel_rfl) rfl (opens_slice Try.underlying41 (by kernel_rfl) (opens_int Try.underlying3)) (opensF_cons rfl (by kernel_rfl) rfl (opens_int Try.underlying3) (opensF_cons rfl (by kernel_rfl) rfl (opens_int Try.underlying3) (opensF_cons rfl (by kernel_rfl) rfl (opens_slice Try.underlying60 (by kernel_rfl) (opens113 H enc w base spare held)) (opensF_cons rfl (by kernel_rfl) rfl (opens_slice Try.underlying61 (by kernel_rfl) (opens111 H enc w base spare held)) (opensF_one rfl (by kernel_rfl) (opens_slice Try.underlying62 (by kernel_rfl) (opens116 H enc w base spare held)))))))))) (fun x : S64 => (x.f0, (x.f1, (x.f2, (x.f3, (x.f4, (x.f5, (x.f6, x.f7)))))))) (fun p => ⟨p.1, p.2.1, p.2.2.1, p.2.2.2.1, p.2.2.2.2.1, p.2.2.2.2.2.1, p.2.2.2.2.2.2.1, p.2.2.2.2.2.2.2⟩) (fun _ => rfl)
def wfS25 (x : S25) : Prop := ((x.f0.length ≤ 9223372036854775807 ∧ ∀ y ∈ x.f0, wfS58 y)) ∧ ((x.f1.length ≤ 9223372036854775807 ∧ ∀ y ∈ x.f1, wfS64 y))
theorem opens25 (H : Type) (enc : TypeId × Value → H) (w : World) (base : Nat) (spare : Nat → Bool) (held : Bool) : Opens enc Try.prog w base spare held 25 k25 wfS25 :=
  opens_struct Try.underlying25 (by kernel_rfl) (opensF_cons rfl (by kernel_rfl) rfl (opens_slice Try.underlying22 (by kernel_rfl) (opens58 H enc w base spare held)) (opensF_one rfl (by kernel_rfl) (opens_slice Try.underlying23 (by kernel_rfl) (opens64 H enc w base spare held)))) (fun x : S25 => (x.f0, x.f1)) (fun p => ⟨p.1, p.2⟩) (fun _ => rfl)
end Go.Proofs.Ytedodaifpekahaa.P

end
section

namespace Go.Proofs.Ytedodaifpekahaa.P
open Go.RowKit Go.Proofs.YtedodaifpekahaaW.PrintWords
def laws_FnExactUnitOk.Pure : Prop := ∀ (x0 : S25), (wfS25 x0) → ∃ k, laws_FnExactUnitOk.f k x0.f0 x0.f1 = some true
end Go.Proofs.Ytedodaifpekahaa.P

end
section

namespace Go.Proofs.Ytedodaifpekahaa.Kit
open Go Go.RowKit Go.Proofs.YtedodaifpekahaaW.PrintWords
set_option linter.unusedVariables false
def Evp {α : Type} (g : Nat → Option α) (P : α → Prop) : Prop := ∃ r, Ev g r ∧ P r
theorem Evp.pure {α : Type} {P : α → Prop} (r : α) (h : P r) : Evp (fun _ => some r) P := ⟨r, Ev.now r, h⟩
theorem Evp.bind {α β : Type} {g : Nat → Option α} {f : Nat → α → Option β} {P : α → Prop} {Q : β → Prop} (h : Evp g P) (k : ∀ a, P a → Evp (fun n => f n a) Q) : Evp (fun n => (g n).bind (f n)) Q := by
  obtain ⟨a, ha, hp⟩ := h
  obtain ⟨r, hr, hq⟩ := k a hp
  exact ⟨r, Ev.bind ha hr, hq⟩
theorem Evp.step {α : Type} {g f : Nat → Option α} {P : α → Prop} (h : ∀ k, g (k + 1) = f k) (k : Evp f P) : Evp g P := by
  obtain ⟨r, hr, hp⟩ := k
  exact ⟨r, Ev.step h hr, hp⟩
theorem Evp.congr {α : Type} {g f : Nat → Option α} {P : α → Prop} (h : ∀ k, g k = f k) (k : Evp f P) : Evp g P := by
  obtain ⟨r, hr, hp⟩ := k
  exact ⟨r, Ev.congr h hr, hp⟩
theorem Evp.mono {α : Type} {g : Nat → Option α} {P Q : α → Prop} (h : Evp g P) (hpq : ∀ r, P r → Q r) : Evp g Q := by
  obtain ⟨r, hr, hp⟩ := h
  exact ⟨r, hr, hpq r hp⟩
theorem Evp.yes {α : Type} {c : Prop} [Decidable c] {f g : Nat → Option α} {P : α → Prop} (hc : c) (h : Evp f P) : Evp (fun n => if c then f n else g n) P := by
  simp only [if_pos hc]; exact h
theorem Evp.no {α : Type} {c : Prop} [Decidable c] {f g : Nat → Option α} {P : α → Prop} (hc : ¬ c) (h : Evp g P) : Evp (fun n => if c then f n else g n) P := by
  simp only [if_neg hc]; exact h
theorem Evp.ite {α : Type} {c : Prop} [Decidable c] {f g : Nat → Option α} {P : α → Prop} (h : c → Evp f P) (k : ¬ c → Evp g P) : Evp (fun n => if c then f n else g n) P := by
  by_cases hc : c
  · exact Evp.yes hc (h hc)
  · exact Evp.no hc (k hc)
theorem Ev.of_evp {α : Type} {g : Nat → Option α} {r : α} (h : Evp g (fun x => x = r)) : Ev g r := by
  obtain ⟨x, hx, rfl⟩ := h
  exact hx
theorem Evp.const {α : Type} {o : Option α} {r : α} {P : α → Prop} (h : o = some r) (hp : P r) : Evp (fun _ => o) P := ⟨r, ⟨0, fun _ _ => h⟩, hp⟩
theorem Evp.rounds {α : Type} {g : Nat → Option α} {r : α} (h : Evp g (fun x => x = r)) : ∃ k, g k = some r := (Ev.of_evp h).rounds
theorem Evp.for_ {ρ : Type} {n : Nat} {g : Nat → Nat → Option ρ} {R : Nat → ρ → Prop} (hend : Evp (g n) (R n)) (hstep : ∀ i, i < n → Evp (g (i + 1)) (R (i + 1)) → Evp (g i) (R i)) : ∀ i, i ≤ n → Evp (g i) (R i) := by
  have key : ∀ d i, i + d = n → Evp (g i) (R i) := by
    intro d
    induction d with
    | zero => intro i hi; have : i = n := by omega
              subst this; exact hend
    | succ d ih => intro i hi; exact hstep i (by omega) (ih (i + 1) (by omega))
  intro i hi
  exact key (n - i) i (by omega)
theorem Evp.fors {σ ρ : Type} {n : Nat} {g : Nat → σ → Nat → Option ρ} {I : Nat → σ → Prop} {R : Nat → σ → ρ → Prop} (hend : ∀ s, I n s → Evp (g n s) (R n s))
    (hstep : ∀ i, i < n → (∀ s, I (i + 1) s → Evp (g (i + 1) s) (R (i + 1) s)) → ∀ s, I i s → Evp (g i s) (R i s)) : ∀ i, i ≤ n → ∀ s, I i s → Evp (g i s) (R i s) := by
  have key : ∀ d i, i + d = n → ∀ s, I i s → Evp (g i s) (R i s) := by
    intro d
    induction d with
    | zero => intro i hi; have : i = n := by omega
              subst this; exact hend
    | succ d ih => intro i hi; exact hstep i (by omega) (ih (i + 1) (by omega))
  intro i hi
  exact key (n - i) i (by omega)
theorem drop_at {α : Type} {xs : List α} {i : Nat} (h : i < xs.length) : xs.drop i = xs[i] :: xs.drop (i + 1) := List.drop_eq_getElem_cons h
theorem getD_at {α : Type} {xs : List α} {i : Nat} (h : i < xs.length) (d : α) : xs.getD i d = xs[i] := by
  rw [List.getD_eq_getElem?_getD, List.getElem?_eq_getElem h]; rfl
theorem w64' {i n : Nat} (h : i < n) (hn : n ≤ 9223372036854775807) : wrap64 ((i : Int) + 1) = ((i + 1 : Nat) : Int) := by unfold wrap64; omega
theorem w64 {n : Int} (h0 : -9223372036854775808 ≤ n) (h1 : n ≤ 9223372036854775807) : wrap64 n = n := by unfold wrap64; omega
end Go.Proofs.Ytedodaifpekahaa.Kit

end
section

namespace Go.Proofs.Ytedodaifpekahaa.Kit
open Go Go.RowKit Go.Proofs.YtedodaifpekahaaW.PrintWords Go.Proofs.Ytedodaifpekahaa.P
set_option linter.unusedVariables false
abbrev Cls := S76
def sup (cs : List Cls) (i : Nat) : Int := (cs.getD i z76).f0
def flds (cs : List Cls) (i : Nat) : List Int := (cs.getD i z76).f1
def FieldTy (n : Nat) (t : Int) : Prop := t = 1 ∨ t = 3 ∨ t = 4 ∨ (8 ≤ t ∧ t < 8 + (n : Int))
structure ClsOk (cs : List Cls) : Prop where
  lo : 2 ≤ cs.length
  hi : cs.length ≤ 5
  root : sup cs 0 = -1 ∧ flds cs 0 = []
  fail : sup cs 1 = 0 ∧ flds cs 1 = [1]
  up : ∀ i, 2 ≤ i → i < cs.length → 0 ≤ sup cs i ∧ sup cs i < (i : Int) ∧ (flds cs i).length ≤ 2
  fld : ∀ i, i < cs.length → ∀ t ∈ flds cs i, FieldTy cs.length t
inductive Up (cs : List Cls) : Nat → Nat → Prop
  | refl (a : Nat) : Up cs a a
  | step {a b : Nat} (p : Nat) (hp : sup cs a = (p : Int)) (h : Up cs p b) : Up cs a b
theorem ClsOk.sup_pos {cs : List Cls} (h : ClsOk cs) {i : Nat} (h1 : 1 ≤ i) (h2 : i < cs.length) : 0 ≤ sup cs i ∧ sup cs i < (i : Int) := by
  rcases Nat.lt_or_ge i 2 with h3 | h3
  · have : i = 1 := by omega
    subst this
    rw [h.fail.1]
    decide
  · have := h.up i h3 h2
    exact ⟨this.1, this.2.1⟩
theorem ClsOk.sup_nat {cs : List Cls} (h : ClsOk cs) {i : Nat} (h1 : 1 ≤ i) (h2 : i < cs.length) : ∃ p : Nat, sup cs i = (p : Int) ∧ p < i := by
  obtain ⟨h3, h4⟩ := h.sup_pos h1 h2
  exact ⟨(sup cs i).toNat, by omega, by omega⟩
theorem ClsOk.len2 {cs : List Cls} (h : ClsOk cs) {i : Nat} (h2 : i < cs.length) : (flds cs i).length ≤ 2 := by
  rcases Nat.lt_or_ge i 2 with h3 | h3
  · rcases Nat.lt_or_ge i 1 with h4 | h4
    · have : i = 0 := by omega
      subst this
      rw [h.root.2]; decide
    · have : i = 1 := by omega
      subst this
      rw [h.fail.2]; decide
  · exact (h.up i h3 h2).2.2
theorem Up.le {cs : List Cls} (h : ClsOk cs) {a b : Nat} (hu : Up cs a b) (ha : a < cs.length) : b ≤ a := by
  induction hu with
  | refl a => exact Nat.le_refl _
  | @step a b p hp _ ih =>
    rcases Nat.eq_zero_or_pos a with h0 | h0
    · subst h0
      have := h.root.1
      omega
    · have := h.sup_pos h0 ha
      have := ih (by omega)
      omega
theorem Up.inv {cs : List Cls} {a b : Nat} (hu : Up cs a b) : a = b ∨ ∃ p : Nat, sup cs a = (p : Int) ∧ Up cs p b := by
  cases hu with
  | refl => exact .inl rfl
  | step p hp h => exact .inr ⟨p, hp, h⟩
theorem Up.trans {cs : List Cls} {a b c : Nat} (h1 : Up cs a b) (h2 : Up cs b c) : Up cs a c := by
  induction h1 with
  | refl => exact h2
  | step p hp _ ih => exact .step p hp (ih h2)
theorem Up.root {cs : List Cls} (h : ClsOk cs) : ∀ {a : Nat}, a < cs.length → Up cs a 0 := by
  intro a
  induction a using Nat.strongRecOn with
  | _ a ih =>
    intro ha
    rcases Nat.eq_zero_or_pos a with h0 | h0
    · subst h0; exact .refl 0
    · obtain ⟨p, hp, hlt⟩ := h.sup_nat h0 ha
      exact .step p hp (ih p hlt (by omega))
inductive Flds (cs : List Cls) : Nat → List Int → Prop
  | root : Flds cs 0 []
  | step {c : Nat} {l : List Int} (p : Nat) (hc : c ≠ 0) (hp : sup cs c = (p : Int)) (h : Flds cs p l) : Flds cs c (l ++ flds cs c)
theorem Flds.fn {cs : List Cls} {c : Nat} {l l' : List Int} (h : Flds cs c l) (h' : Flds cs c l') : l = l' := by
  induction h generalizing l' with
  | root =>
    cases h' with
    | root => rfl
    | step p hc _ _ => exact absurd rfl hc
  | step p hc hp _ ih =>
    cases h' with
    | root => exact absurd rfl hc
    | step q _ hq hl =>
      have : p = q := by omega
      subst this
      rw [ih hl]
theorem rdSup {cs : List Cls} (i : Nat) : (rd_T76 cs (i : Int)).f0 = sup cs i := rfl
theorem rdFlds {cs : List Cls} (i : Nat) : (rd_T76 cs (i : Int)).f1 = flds cs i := rfl
theorem rdInt {xs : List Int} {i : Nat} (h : i < xs.length) : rd xs (i : Int) = xs[i] := getD_at h _
def SmallC (cs : List Cls) : Prop := cs.length ≤ 1048576 ∧ ∀ i, i < cs.length → (flds cs i).length ≤ 1048576 ∧ (∀ t ∈ flds cs i, -9223372036854775808 ≤ t ∧ t ≤ 9223372036854775807)
theorem same_of {p : Prop} {a b : Bool} (ha : a = true ↔ p) (hb : b = true ↔ p) : a = b := by
  rw [Bool.eq_iff_iff, ha, hb]
theorem bne_no {a b : Bool} {p : Prop} (ha : a = true ↔ p) (hb : b = true ↔ p) : ¬ ((b != a) = true) := by
  rw [same_of hb ha]; simp
end Go.Proofs.Ytedodaifpekahaa.Kit

end
section

namespace Go.Proofs.Ytedodaifpekahaa.Kit
open Go Go.RowKit Go.Proofs.YtedodaifpekahaaW.PrintWords Go.Proofs.Ytedodaifpekahaa.P
set_option linter.unusedVariables false
theorem in_eq (a lo hi : Int) : spec_l6In.f a lo hi = some (decide (lo ≤ a ∧ a ≤ hi)) := by
  unfold spec_l6In.f
  by_cases h : lo ≤ a <;> simp [h]
theorem kindOf_eq {n : Nat} {t : Int} (hn : n ≤ 1000000000) (h0 : -9223372036854775808 ≤ t) (h1 : t ≤ 9223372036854775807) :
    impl_kindOf.f (n : Int) t = some (if (0 ≤ t ∧ t ≤ 4) ∨ (8 ≤ t ∧ t < 8 + (n : Int)) then t else -1) := by
  unfold impl_kindOf.f
  rw [if_pos ⟨by omega, by omega, h0, h1⟩]
  repeat' split
  all_goals first | omega | (congr 1; omega) | rfl
theorem fieldType_eq {n : Nat} {t : Int} (hn : n ≤ 1000000000) (h0 : -9223372036854775808 ≤ t) (h1 : t ≤ 9223372036854775807) :
    ∃ b, impl_fieldType.f (n : Int) t = some b ∧ (b = true ↔ FieldTy n t) := by
  unfold impl_fieldType.f
  rw [kindOf_eq hn h0 h1, Option.bind_some]
  refine ⟨_, rfl, ?_⟩
  rw [decide_eq_true_iff]
  unfold FieldTy
  split <;> omega
theorem field_eq {cs : List Cls} {t : Int} (hn : cs.length ≤ 1000000000) : ∃ b, spec_l2Field.f cs t = some b ∧ (b = true ↔ FieldTy cs.length t) := by
  unfold spec_l2Field.f FieldTy
  rw [in_eq, w64 (n := 8 + (cs.length : Int)) (by omega) (by omega), w64 (by omega) (by omega)]
  by_cases h1 : t = 1
  · exact ⟨true, by rw [if_pos h1], by simp [h1]⟩
  rw [if_neg h1]
  by_cases h2 : t = 3
  · exact ⟨true, by rw [if_pos h2], by simp [h2]⟩
  rw [if_neg h2]
  by_cases h3 : t = 4
  · exact ⟨true, by rw [if_pos h3], by simp [h3]⟩
  rw [if_neg h3]
  refine ⟨_, rfl, ?_⟩
  simp only [h1, h2, h3, false_or, decide_eq_true_iff]
  omega
theorem impl_isClass_eq (cs : List Cls) (a : Int) : ∃ b, impl_isClass.f cs a = some b ∧ (b = true ↔ 0 ≤ a ∧ a < (cs.length : Int)) := by
  unfold impl_isClass.f
  by_cases h : a ≥ 0
  · rw [if_pos h]; exact ⟨_, rfl, by rw [decide_eq_true_iff]; omega⟩
  · rw [if_neg h]; exact ⟨_, rfl, by simp; omega⟩
def Shp (cs : List Cls) (c : Nat) : Prop := (if c = 0 then sup cs 0 = -1 ∧ (flds cs 0).length = 0 else if c = 1 then sup cs 1 = 0 ∧ flds cs 1 = [1] else 0 ≤ sup cs c ∧ sup cs c < (c : Int) ∧ (flds cs c).length ≤ 2)
theorem shp0 {cs : List Cls} : Shp cs 0 ↔ sup cs 0 = -1 ∧ (flds cs 0).length = 0 := by unfold Shp; rw [if_pos rfl]
theorem shp1 {cs : List Cls} : Shp cs 1 ↔ sup cs 1 = 0 ∧ flds cs 1 = [1] := by unfold Shp; rw [if_neg (by decide), if_pos rfl]
theorem shp2 {cs : List Cls} {c : Nat} (h : 2 ≤ c) : Shp cs c ↔ 0 ≤ sup cs c ∧ sup cs c < (c : Int) ∧ (flds cs c).length ≤ 2 := by unfold Shp; rw [if_neg (by omega), if_neg (by omega)]
def At (cs : List Cls) (c : Nat) : Prop := (∀ t ∈ flds cs c, FieldTy cs.length t) ∧ Shp cs c
theorem clsOk_iff {cs : List Cls} : ClsOk cs ↔ 2 ≤ cs.length ∧ cs.length ≤ 5 ∧ ∀ c, c < cs.length → At cs c := by
  constructor
  · intro h
    refine ⟨h.lo, h.hi, fun c hc => ⟨h.fld c hc, ?_⟩⟩
    rcases Nat.lt_or_ge c 2 with h2 | h2
    · rcases Nat.lt_or_ge c 1 with h1 | h1
      · have : c = 0 := by omega
        subst this
        exact shp0.2 ⟨h.root.1, by rw [h.root.2]; rfl⟩
      · have : c = 1 := by omega
        subst this
        exact shp1.2 h.fail
    · exact (shp2 h2).2 (h.up c h2 hc)
  · intro ⟨h1, h2, h3⟩
    have a0 := shp0.1 (h3 0 (by omega)).2
    have a1 := shp1.1 (h3 1 (by omega)).2
    exact ⟨h1, h2, ⟨a0.1, List.eq_nil_of_length_eq_zero a0.2⟩, a1, fun i hi hl => (shp2 hi).1 (h3 i hl).2, fun i hi => (h3 i hi).1⟩
theorem spec_class {cs : List Cls} (hs : SmallC cs) {c : Nat} (hc : c < cs.length) : Evp (fun k => spec_l2Class.f k cs (c : Int)) (fun r => r = true ↔ At cs c) := by
  unfold spec_l2Class.f
  refine Evp.yes (by omega) (Evp.yes (by omega) ?_)
  rw [rdSup, rdFlds]
  have hl := (hs.2 c hc).1
  have hl0 := hs.1
  have key : ∀ i, i ≤ (flds cs c).length → Evp (fun k => spec_l2Class.l0 k cs (c : Int) (i : Int) (sup cs c) (flds cs c)) (fun r => r = true ↔ (∀ t ∈ (flds cs c).drop i, FieldTy cs.length t) ∧ Shp cs c) := by
    refine Evp.for_ ?_ (fun i hi ih => ?_)
    · refine Evp.step (f := fun k => _) (fun k => by rw [spec_l2Class.l0, in_eq]) (Evp.no (by omega) ?_)
      rw [List.drop_length]
      simp only [List.not_mem_nil, false_implies, implies_true, true_and]
      refine Evp.ite (fun h0 => ?_) (fun h0 => ?_)
      · have : c = 0 := by omega
        subst this
        rw [shp0]
        refine Evp.ite (fun h => Evp.pure _ ?_) (fun h => Evp.pure _ (by simp [h]))
        rw [beq_iff_eq]
        constructor
        · intro h2; exact ⟨h, by omega⟩
        · intro h2; omega
      · refine Evp.ite (fun h1 => ?_) (fun h1 => ?_)
        · have : c = 1 := by omega
          subst this
          rw [shp1]
          refine Evp.ite (fun h => ?_) (fun h => Evp.pure _ (by simp [h]))
          refine Evp.ite (fun h2 => ?_) (fun h2 => Evp.pure _ ?_)
          · refine Evp.yes (by omega) (Evp.pure _ ?_)
            obtain ⟨x, hx⟩ := List.length_eq_one_iff.1 (by omega : (flds cs 1).length = 1)
            rw [hx, show rd [x] 0 = x from rfl, beq_iff_eq]
            simp [h]
          · constructor
            · intro h3; cases h3
            · intro h3; rw [h3.2] at h2; exact absurd rfl h2
        · rw [shp2 (by omega)]
          refine Evp.congr (f := fun k => if 0 ≤ sup cs c ∧ sup cs c ≤ (c : Int) - 1 then some (decide (((flds cs c).length : Int) ≤ 2)) else some false) (fun k => by rw [w64 (n := (c : Int) - 1) (by omega) (by omega), Option.bind_some]; simp only [decide_eq_true_iff]) ?_
          refine Evp.ite (fun h => Evp.pure _ ?_) (fun h => Evp.pure _ ?_)
          · simp only [decide_eq_true_iff]
            omega
          · constructor
            · intro h3; cases h3
            · intro h3; omega
    · obtain ⟨b, hb, hb2⟩ := field_eq (cs := cs) (t := (flds cs c)[i]) (by omega)
      refine Evp.step (f := fun k => _) (fun k => by rw [spec_l2Class.l0, rdInt hi, hb, Option.bind_some]) (Evp.yes (by omega) (Evp.yes (by omega) ?_))
      rw [w64' hi (by omega), drop_at hi]
      refine Evp.ite (fun h => ih.mono fun r hr => ?_) (fun h => Evp.pure _ ?_)
      · rw [hr, List.forall_mem_cons]
        exact ⟨fun h2 => ⟨⟨hb2.1 h, h2.1⟩, h2.2⟩, fun h2 => ⟨h2.1.2, h2.2⟩⟩
      · rw [List.forall_mem_cons]
        exact ⟨fun h2 => (by cases h2), fun h2 => absurd (hb2.2 h2.1.1) h⟩
  exact key 0 (Nat.zero_le _)
theorem spec_classesOk {cs : List Cls} (hs : SmallC cs) : Evp (fun k => spec_ClassesOk.f k cs) (fun r => r = true ↔ ClsOk cs) := by
  have hl0 := hs.1
  unfold spec_ClassesOk.f
  rw [in_eq]
  simp only [Option.bind_some]
  refine Evp.ite (fun h => ?_) (fun h => Evp.pure _ ?_)
  · simp only [decide_eq_true_iff] at h
    have key : ∀ i, i ≤ cs.length → Evp (fun k => spec_ClassesOk.l0 k cs (i : Int)) (fun r => r = true ↔ ∀ c, i ≤ c → c < cs.length → At cs c) := by
      refine Evp.for_ ?_ (fun i hi ih => ?_)
      · refine Evp.step (f := fun k => _) (fun k => by rw [spec_ClassesOk.l0]) (Evp.no (by omega) (Evp.pure _ ?_))
        simp only [true_iff]
        intro c h1 h2; omega
      · refine Evp.step (f := fun k => _) (fun k => by rw [spec_ClassesOk.l0]) (Evp.yes (by omega) ?_)
        refine Evp.bind (spec_class hs hi) fun b hb => ?_
        rw [w64' hi (by omega)]
        refine Evp.ite (fun h1 => ih.mono fun r hr => ?_) (fun h1 => Evp.pure _ ?_)
        · rw [hr]
          constructor
          · intro h2 c h3 h4
            rcases Nat.lt_or_ge i c with h5 | h5
            · exact h2 c h5 h4
            · have : c = i := by omega
              subst this
              exact hb.1 h1
          · intro h2 c h3 h4; exact h2 c (by omega) h4
        · constructor
          · intro h2; cases h2
          · intro h2; exact absurd (hb.2 (h2 i (Nat.le_refl _) hi)) h1
    refine (key 0 (Nat.zero_le _)).mono fun r hr => ?_
    rw [hr, clsOk_iff]
    constructor
    · intro h2; exact ⟨by omega, by omega, fun c hc => h2 c (Nat.zero_le _) hc⟩
    · intro h2 c _ hc; exact h2.2.2 c hc
  · simp only [decide_eq_true_iff] at h
    constructor
    · intro h2; cases h2
    · intro h2; have := h2.lo; have := h2.hi; omega
theorem impl_classesOk {cs : List Cls} (hs : SmallC cs) : Evp (fun k => impl_ClassesOk.f k cs) (fun r => r = true ↔ ClsOk cs) := by
  have hl0 := hs.1
  have no : ∀ {p : Prop}, ¬ p → ((false = true) ↔ p) := fun h => ⟨fun h2 => (by cases h2), fun h2 => absurd h2 h⟩
  have jno : ¬ (2 ≤ cs.length ∧ cs.length ≤ 5) → Evp (fun k => impl_ClassesOk.j0 k cs true) (fun r => r = true ↔ ClsOk cs) := fun h =>
    Evp.step (f := fun k => _) (fun k => by rw [impl_ClassesOk.j0]) (Evp.yes rfl (Evp.pure _ (no fun h2 => h ⟨h2.lo, h2.hi⟩)))
  unfold impl_ClassesOk.f
  refine Evp.ite (fun h => jno (by omega)) (fun h => ?_)
  by_cases h5 : ¬ cs.length ≤ 5
  · rw [decide_eq_true (by omega)]; exact jno (by omega)
  rw [decide_eq_false (by omega)]
  have h2 : 2 ≤ cs.length := by omega

  have loop : (sup cs 0 = -1 ∧ flds cs 0 = []) → (sup cs 1 = 0 ∧ flds cs 1 = [1]) → ∀ i, i ≤ cs.length → Evp (fun k => impl_ClassesOk.l0 k cs cs (cs.length : Int) (i : Int)) (fun r => r = true ↔ ∀ c, i ≤ c → c < cs.length → At cs c) := by
    intro hr hf
    refine Evp.for_ ?_ (fun i hi ih => ?_)
    · refine Evp.step (f := fun k => _) (fun k => by rw [impl_ClassesOk.l0]) (Evp.no (by omega) (Evp.pure _ ?_))
      simp only [true_iff]
      intro c h1 h2; omega
    · have ih2 : At cs i → ∀ r : Bool, (r = true ↔ ∀ c, i + 1 ≤ c → c < cs.length → At cs c) → (r = true ↔ ∀ c, i ≤ c → c < cs.length → At cs c) := by
        intro ha r hr
        rw [hr]
        constructor
        · intro h2 c h3 h4
          rcases Nat.lt_or_ge i c with h5 | h5
          · exact h2 c h5 h4
          · have : c = i := by omega
            subst this
            exact ha
        · intro h2 c h3 h4; exact h2 c (by omega) h4
      have hno : ¬ At cs i → ((false = true) ↔ ∀ c, i ≤ c → c < cs.length → At cs c) := fun h => no fun h2 => h (h2 i (Nat.le_refl _) hi)
      have hl := (hs.2 i hi).1
      have hb := (hs.2 i hi).2

      have fl : Shp cs i →
          ∀ j, j ≤ (flds cs i).length → (∀ t ∈ (flds cs i).take j, FieldTy cs.length t) → Evp (fun k => impl_ClassesOk.l1 k cs cs (cs.length : Int) (i : Int) (flds cs i) ((flds cs i).length : Int) (j : Int)) (fun r => r = true ↔ ∀ c, i ≤ c → c < cs.length → At cs c) := by
        intro hc
        have key : ∀ j, j ≤ (flds cs i).length → ∀ _ : Unit, (∀ t ∈ (flds cs i).take j, FieldTy cs.length t) → Evp (fun k => impl_ClassesOk.l1 k cs cs (cs.length : Int) (i : Int) (flds cs i) ((flds cs i).length : Int) (j : Int)) (fun r => r = true ↔ ∀ c, i ≤ c → c < cs.length → At cs c) := by
          refine Evp.fors (g := fun j (_ : Unit) k => impl_ClassesOk.l1 k cs cs (cs.length : Int) (i : Int) (flds cs i) ((flds cs i).length : Int) (j : Int)) (I := fun j _ => ∀ t ∈ (flds cs i).take j, FieldTy cs.length t) (R := fun _ _ r => r = true ↔ ∀ c, i ≤ c → c < cs.length → At cs c) (fun _ hI => ?_) (fun j hj ihj _ hI => ?_)
          · refine Evp.step (f := fun k => _) (fun k => by rw [impl_ClassesOk.l1]) (Evp.no (by omega) ?_)
            rw [w64' hi (by omega)]
            refine ih.mono (ih2 ⟨?_, hc⟩)
            simpa using hI
          · obtain ⟨b, hb1, hb2⟩ := fieldType_eq (n := cs.length) (t := (flds cs i)[j]) (by omega) (hb _ (List.getElem_mem hj)).1 (hb _ (List.getElem_mem hj)).2
            refine Evp.step (f := fun k => _) (fun k => by rw [impl_ClassesOk.l1, rdInt hj, hb1, Option.bind_some]) (Evp.yes (by omega) (Evp.yes (by omega) (Evp.yes (by omega) ?_)))
            rw [w64' hj (by omega)]
            refine Evp.ite (fun h => ihj () ?_) (fun h => Evp.pure _ (hno ?_))
            · rw [List.take_succ_eq_append_getElem hj]
              intro t ht
              rcases List.mem_append.1 ht with ht | ht
              · exact hI t ht
              · rw [List.mem_singleton.1 ht]; exact hb2.1 h
            · intro ha; exact h (hb2.2 (ha.1 _ (List.getElem_mem hj)))
        exact fun j hj => key j hj ()
      have j4 : ∀ b : Bool, (b = true ↔ 2 ≤ i ∧ ¬ (0 ≤ sup cs i ∧ sup cs i < (i : Int))) → Evp (fun k => impl_ClassesOk.j4 k cs cs (cs.length : Int) (i : Int) b (sup cs i) (flds cs i)) (fun r => r = true ↔ ∀ c, i ≤ c → c < cs.length → At cs c) := by
        intro b hb4
        refine Evp.step (f := fun k => _) (fun k => by rw [impl_ClassesOk.j4]) ?_
        refine Evp.ite (fun h => Evp.pure _ (hno ?_)) (fun h => ?_)
        · intro ha
          have h6 := hb4.1 h
          have := (shp2 h6.1).1 ha.2
          omega
        · have h6 : ¬ (2 ≤ i ∧ ¬ (0 ≤ sup cs i ∧ sup cs i < (i : Int))) := fun h7 => h (hb4.2 h7)
          refine Evp.ite (fun h7 => Evp.pure _ (hno ?_)) (fun h7 => fl ?_ 0 (Nat.zero_le _) (by simp))
          · intro ha
            rcases Nat.lt_or_ge i 2 with h8 | h8
            · rcases Nat.lt_or_ge i 1 with h9 | h9
              · have : i = 0 := by omega
                subst this
                have := (shp0.1 ha.2).2
                omega
              · have : i = 1 := by omega
                subst this
                rw [hf.2] at h7; exact absurd h7 (by decide)
            · have := (shp2 h8).1 ha.2
              omega
          · rcases Nat.lt_or_ge i 2 with h8 | h8
            · rcases Nat.lt_or_ge i 1 with h9 | h9
              · have : i = 0 := by omega
                subst this
                exact shp0.2 ⟨hr.1, by rw [hr.2]; rfl⟩
              · have : i = 1 := by omega
                subst this
                exact shp1.2 hf
            · exact (shp2 h8).2 (by omega)
      refine Evp.step (f := fun k => _) (fun k => by rw [impl_ClassesOk.l0, rdSup, rdFlds]) (Evp.yes (by omega) (Evp.yes (by omega) (Evp.yes (by omega) ?_)))
      refine Evp.ite (fun h => Evp.ite (fun h8 => j4 _ ?_) (fun h8 => j4 _ ?_)) (fun h => j4 _ ?_)
      · simp; omega
      · rw [decide_eq_true_iff]; omega
      · simp; omega
  have done : (sup cs 0 = -1 ∧ flds cs 0 = []) → (sup cs 1 = 0 ∧ flds cs 1 = [1]) → Evp (fun k => impl_ClassesOk.l0 k cs cs (cs.length : Int) 0) (fun r => r = true ↔ ClsOk cs) := by
    intro hr hf
    refine (loop hr hf 0 (Nat.zero_le _)).mono fun r hr2 => ?_
    rw [hr2, clsOk_iff]
    constructor
    · intro h3; exact ⟨by omega, by omega, fun c hc => h3 c (Nat.zero_le _) hc⟩
    · intro h3 c _ hc; exact h3.2.2 c hc
  have j2 : (sup cs 0 = -1 ∧ flds cs 0 = []) → ∀ b : Bool, (b = false ↔ (sup cs 1 = 0 ∧ flds cs 1 = [1])) → Evp (fun k => impl_ClassesOk.j2 k cs b) (fun r => r = true ↔ ClsOk cs) := by
    intro hr b hb
    refine Evp.step (f := fun k => _) (fun k => by rw [impl_ClassesOk.j2]) ?_
    refine Evp.ite (fun h => Evp.pure _ (no fun h3 => ?_)) (fun h => done hr (hb.1 (by simpa using h)))
    have := hb.2 h3.fail
    rw [h] at this; cases this
  have j1 : ∀ b : Bool, (b = false ↔ (sup cs 0 = -1 ∧ flds cs 0 = [])) → Evp (fun k => impl_ClassesOk.j1 k cs b) (fun r => r = true ↔ ClsOk cs) := by
    intro b hb
    refine Evp.step (f := fun k => _) (fun k => by rw [impl_ClassesOk.j1, show (1 : Int) = ((1 : Nat) : Int) from rfl, rdSup, rdFlds]) ?_
    refine Evp.ite (fun h => Evp.pure _ (no fun h3 => ?_)) (fun h => ?_)
    · have := hb.2 h3.root
      rw [h] at this; cases this
    · have hr := hb.1 (by simpa using h)
      refine Evp.yes (by omega) (Evp.ite (fun h1 => Evp.ite (fun h3 => Evp.yes (by omega) (j2 hr _ ?_)) (fun h3 => j2 hr _ ?_)) (fun h1 => j2 hr _ ?_))
      · obtain ⟨x, hx⟩ := List.length_eq_one_iff.1 (by omega : (flds cs 1).length = 1)
        rw [hx, show rd [x] 0 = x from rfl]
        simp [h1]
      · constructor
        · intro h4; cases h4
        · intro h4; rw [h4.2] at h3; exact absurd rfl h3
      · constructor
        · intro h4; cases h4
        · intro h4; exact absurd h4.1 h1
  refine Evp.step (f := fun k => _) (fun k => by rw [impl_ClassesOk.j0, show (0 : Int) = ((0 : Nat) : Int) from rfl, rdSup, rdFlds]) (Evp.no (by decide) (Evp.yes (by omega) ?_))
  refine Evp.ite (fun h1 => j1 _ ?_) (fun h1 => j1 _ ?_)
  · constructor
    · intro h3
      have : (flds cs 0).length = 0 := by simpa using h3
      exact ⟨h1, List.eq_nil_of_length_eq_zero this⟩
    · intro h3; rw [h3.2]; rfl
  · constructor
    · intro h3; cases h3
    · intro h3; exact absurd h3.1 h1
end Go.Proofs.Ytedodaifpekahaa.Kit

end
section

namespace Go.Proofs.Ytedodaifpekahaa.Kit
open Go Go.RowKit Go.Proofs.YtedodaifpekahaaW.PrintWords Go.Proofs.Ytedodaifpekahaa.P
set_option linter.unusedVariables false
theorem iff_no {p : Prop} (h : ¬ p) : (false = true) ↔ p := ⟨fun h2 => (by cases h2), fun h2 => absurd h2 h⟩
theorem iff_yes {p : Prop} (h : p) : (true = true) ↔ p := ⟨fun _ => h, fun _ => rfl⟩
theorem Up.via {cs : List Cls} {a b p : Nat} (hp : sup cs a = (p : Int)) (hne : a ≠ b) : Up cs a b ↔ Up cs p b := by
  constructor
  · intro h
    rcases h.inv with rfl | ⟨q, hq, h2⟩
    · exact absurd rfl hne
    · have : p = q := by omega
      subst this
      exact h2
  · intro h; exact .step p hp h
theorem spec_up {cs : List Cls} (h : ClsOk cs) (b : Nat) : ∀ a : Nat, a < cs.length → Evp (fun k => spec_l2Up.f k cs (a : Int) (b : Int)) (fun r => r = true ↔ Up cs a b) := by
  intro a
  induction a using Nat.strongRecOn with
  | _ a ih =>
    intro ha
    unfold spec_l2Up.f at ih ⊢
    refine Evp.step (f := fun k => _) (fun k => by rw [spec_l2Up.l0, rdSup]) (Evp.ite (fun hab => ?_) (fun hab => Evp.pure _ ?_))
    · obtain ⟨p, hp, hlt⟩ := h.sup_nat (by omega : 1 ≤ a) ha
      refine Evp.yes (by omega) (Evp.yes (by omega) ?_)
      rw [hp]
      exact (ih p hlt (by omega)).mono fun r hr => hr.trans (Up.via hp (by omega)).symm
    · rw [beq_iff_eq]
      constructor
      · intro h2
        have : a = b := by omega
        subst this; exact .refl _
      · intro h2
        have := h2.le h ha
        omega
theorem impl_up {cs : List Cls} (h : ClsOk cs) (b : Nat) : ∀ a : Nat, a < cs.length → Evp (fun k => impl_classUp.f k cs (a : Int) (b : Int)) (fun r => r = true ↔ Up cs a b) := by
  intro a
  induction a using Nat.strongRecOn with
  | _ a ih =>
    intro ha
    unfold impl_classUp.f at ih ⊢
    refine Evp.step (f := fun k => _) (fun k => by rw [impl_classUp.l0, rdSup]) (Evp.yes (by omega) (Evp.ite (fun hab => Evp.pure _ ?_) (fun hab => ?_)))
    · have : a = b := by omega
      subst this
      exact iff_yes (.refl _)
    · refine Evp.yes (by omega) (Evp.yes (by omega) ?_)
      rcases Nat.eq_zero_or_pos a with h0 | h0
      · subst h0
        rw [h.root.1]
        refine Evp.step (f := fun k => _) (fun k => by rw [impl_classUp.l0]) (Evp.no (by omega) (Evp.pure _ (iff_no ?_)))
        intro h2
        have := h2.le h ha
        omega
      · obtain ⟨p, hp, hlt⟩ := h.sup_nat h0 ha
        rw [hp]
        exact (ih p hlt (by omega)).mono fun r hr => hr.trans (Up.via hp (by omega)).symm
def TyOk (n : Nat) (t : Int) : Prop := t = 0 ∨ t = 2 ∨ FieldTy n t
theorem tyOk_iff {n : Nat} {t : Int} : TyOk n t ↔ (0 ≤ t ∧ t ≤ 4) ∨ (8 ≤ t ∧ t < 8 + (n : Int)) := by
  unfold TyOk FieldTy
  omega
theorem kindOf_ty {n : Nat} {t : Int} (hn : n ≤ 1000000000) (h0 : -9223372036854775808 ≤ t) (h1 : t ≤ 9223372036854775807) :
    ∃ r, impl_kindOf.f (n : Int) t = some r ∧ (TyOk n t ∧ r = t ∨ ¬ TyOk n t ∧ r = -1) := by
  refine ⟨_, kindOf_eq hn h0 h1, ?_⟩
  rw [tyOk_iff]
  by_cases h : (0 ≤ t ∧ t ≤ 4) ∨ (8 ≤ t ∧ t < 8 + (n : Int))
  · rw [if_pos h]; exact .inl ⟨h, rfl⟩
  · rw [if_neg h]; exact .inr ⟨h, rfl⟩
theorem spec_typeOk {cs : List Cls} (hs : SmallC cs) (t : Int) : Evp (fun k => spec_TypeOk.f k cs t) (fun r => r = true ↔ ClsOk cs ∧ TyOk cs.length t) := by
  have hl0 := hs.1
  unfold spec_TypeOk.f
  refine Evp.bind (spec_classesOk hs) fun b hb => Evp.ite (fun h => ?_) (fun h => Evp.pure _ (iff_no fun h2 => h (hb.2 h2.1)))
  refine Evp.ite (fun h0 => Evp.pure _ (iff_yes ⟨hb.1 h, .inl h0⟩)) (fun h0 => Evp.ite (fun h2 => Evp.pure _ (iff_yes ⟨hb.1 h, .inr (.inl h2)⟩)) (fun h2 => ?_))
  obtain ⟨c, hc, hc2⟩ := field_eq (cs := cs) (t := t) (by omega)
  simp only [hc, Option.bind_some]
  refine Evp.pure _ (hc2.trans ⟨fun h3 => ⟨hb.1 h, .inr (.inr h3)⟩, fun h3 => ?_⟩)
  rcases h3.2 with h4 | h4 | h4
  · exact absurd h4 h0
  · exact absurd h4 h2
  · exact h4
end Go.Proofs.Ytedodaifpekahaa.Kit

end
section

namespace Go.Proofs.Ytedodaifpekahaa.Kit
open Go Go.RowKit Go.Proofs.YtedodaifpekahaaW.PrintWords Go.Proofs.Ytedodaifpekahaa.P
set_option linter.unusedVariables false
theorem all_step {Q : Nat → Prop} {Z : Prop} {i n : Nat} {r : Bool} (hq : Q i) (hr : r = true ↔ (∀ j, i + 1 ≤ j → j < n → Q j) ∧ Z) : r = true ↔ (∀ j, i ≤ j → j < n → Q j) ∧ Z := by
  rw [hr]
  constructor
  · intro ⟨h2, hz⟩
    refine ⟨fun c h3 h4 => ?_, hz⟩
    rcases Nat.lt_or_ge i c with h5 | h5
    · exact h2 c h5 h4
    · have : c = i := by omega
      subst this
      exact hq
  · intro ⟨h2, hz⟩; exact ⟨fun c h3 h4 => h2 c (by omega) h4, hz⟩
theorem all_stop {Q : Nat → Prop} {Z : Prop} {i n : Nat} (hi : i < n) (hq : ¬ Q i) : (false = true) ↔ (∀ j, i ≤ j → j < n → Q j) ∧ Z := iff_no fun h => hq (h.1 i (Nat.le_refl _) hi)
theorem all_end {Q : Nat → Prop} {Z : Prop} {n : Nat} {r : Bool} (h : r = true ↔ Z) : r = true ↔ (∀ j, n ≤ j → j < n → Q j) ∧ Z := h.trans ⟨fun hz => ⟨fun j h1 h2 => absurd h2 (by omega), hz⟩, fun h => h.2⟩
theorem all_mem {α : Type} {xs : List α} {d : α} {Q : α → Prop} : (∀ j, 0 ≤ j → j < xs.length → Q (xs.getD j d)) ↔ ∀ x ∈ xs, Q x := by
  constructor
  · intro h x hx
    obtain ⟨i, hi, rfl⟩ := List.mem_iff_getElem.1 hx
    have := h i (Nat.zero_le _) hi
    rwa [getD_at hi] at this
  · intro h j _ hj
    rw [getD_at hj]
    exact h _ (List.getElem_mem hj)
def I64 (l : List Int) : Prop := ∀ t ∈ l, -9223372036854775808 ≤ t ∧ t ≤ 9223372036854775807
theorem I64.at {l : List Int} (h : I64 l) {i : Nat} (hi : i < l.length) : -9223372036854775808 ≤ l.getD i 0 ∧ l.getD i 0 ≤ 9223372036854775807 := by
  rw [getD_at hi]; exact h _ (List.getElem_mem hi)
theorem rdN {xs : List Int} (i : Nat) : rd xs (i : Int) = xs.getD i 0 := rfl
def ShOk (cs : List Cls) (n : Int) (b : Bool) (l m : List Int) : Prop :=
  (b = true ∧ (l.length : Int) = n ∧ m.length ≤ 4 ∧ (∀ t ∈ l, TyOk cs.length t) ∧ (∀ t ∈ m, TyOk cs.length t ∧ t ≠ 0)) ∨ (b = false ∧ l.length = 0 ∧ m.length = 0)
theorem spec_shapeOk {cs : List Cls} (hs : SmallC cs) (n : Int) (b : Bool) {l m : List Int} (hl : l.length ≤ 1048576) (hm : m.length ≤ 1048576) :
    Evp (fun k => spec_ShapeOk.f k cs n b l m) (fun r => r = true ↔ ClsOk cs ∧ ShOk cs n b l m) := by
  unfold spec_ShapeOk.f
  refine Evp.bind (spec_classesOk hs) fun c hc => Evp.ite (fun h => ?_) (fun h => Evp.pure _ (iff_no fun h2 => h (hc.2 h2.1)))
  have hok := hc.1 h
  refine Evp.ite (fun hb => ?_) (fun hb => Evp.ite (fun h1 => Evp.pure _ ?_) (fun h1 => Evp.pure _ (iff_no ?_)))
  · have jt : ¬ ShOk cs n b l m → Evp (fun k => spec_ShapeOk.j0 k cs true b l m) (fun r => r = true ↔ ClsOk cs ∧ ShOk cs n b l m) := fun h =>
      Evp.step (f := fun k => _) (fun k => by rw [spec_ShapeOk.j0]) (Evp.yes rfl (Evp.pure _ (iff_no fun h2 => h h2.2)))
    refine Evp.ite (fun h1 => ?_) (fun h1 => jt ?_)
    · by_cases h4 : m.length ≤ 4
      · rw [decide_eq_false (by omega)]
        refine Evp.step (f := fun k => _) (fun k => by rw [spec_ShapeOk.j0]) (Evp.no (by decide) ?_)
        have k1 : ∀ i, i ≤ m.length → Evp (fun k => spec_ShapeOk.l1 k cs (i : Int) b l m) (fun r => r = true ↔ (∀ j, i ≤ j → j < m.length → TyOk cs.length (m.getD j 0) ∧ m.getD j 0 ≠ 0) ∧ True) := by
          refine Evp.for_ ?_ (fun i hi ih => ?_)
          · refine Evp.step (f := fun k => _) (fun k => by rw [spec_ShapeOk.l1]) (Evp.no (by omega) (Evp.pure _ (all_end (iff_yes trivial))))
          · refine Evp.step (f := fun k => _) (fun k => by rw [spec_ShapeOk.l1, rdN]) (Evp.yes (by omega) (Evp.yes (by omega) ?_))
            refine Evp.bind (spec_typeOk hs _) fun d hd => Evp.ite (fun h5 => Evp.ite (fun h6 => Evp.pure _ (all_stop hi fun h7 => h7.2 h6)) (fun h6 => ?_)) (fun h5 => Evp.pure _ (all_stop hi fun h7 => h5 (hd.2 ⟨hok, h7.1⟩)))
            rw [w64' hi (by omega)]
            exact ih.mono fun r hr => all_step (Q := fun j => TyOk cs.length (m.getD j 0) ∧ m.getD j 0 ≠ 0) ⟨(hd.1 h5).2, h6⟩ hr
        have k0 : ∀ i, i ≤ l.length → Evp (fun k => spec_ShapeOk.l0 k cs (i : Int) b l m) (fun r => r = true ↔ (∀ j, i ≤ j → j < l.length → TyOk cs.length (l.getD j 0)) ∧ ((∀ j, 0 ≤ j → j < m.length → TyOk cs.length (m.getD j 0) ∧ m.getD j 0 ≠ 0) ∧ True)) := by
          refine Evp.for_ ?_ (fun i hi ih => ?_)
          · refine Evp.step (f := fun k => _) (fun k => by rw [spec_ShapeOk.l0]) (Evp.no (by omega) ?_)
            exact (k1 0 (Nat.zero_le _)).mono fun r hr => all_end hr
          · refine Evp.step (f := fun k => _) (fun k => by rw [spec_ShapeOk.l0, rdN]) (Evp.yes (by omega) (Evp.yes (by omega) ?_))
            refine Evp.bind (spec_typeOk hs _) fun d hd => Evp.ite (fun h5 => ?_) (fun h5 => Evp.pure _ (all_stop hi fun h7 => h5 (hd.2 ⟨hok, h7⟩)))
            rw [w64' hi (by omega)]
            exact ih.mono fun r hr => all_step (Q := fun j => TyOk cs.length (l.getD j 0)) (hd.1 h5).2 hr
        refine (k0 0 (Nat.zero_le _)).mono fun r hr => hr.trans ?_
        rw [all_mem (Q := fun t => TyOk cs.length t), all_mem (Q := fun t => TyOk cs.length t ∧ t ≠ 0)]
        unfold ShOk
        rw [hb]
        constructor
        · intro h5; exact ⟨hok, .inl ⟨rfl, h1, h4, h5.1, h5.2.1⟩⟩
        · intro h5
          rcases h5.2 with h6 | h6
          · exact ⟨h6.2.2.2.1, h6.2.2.2.2, trivial⟩
          · cases h6.1
      · rw [decide_eq_true (by omega)]
        refine jt ?_
        unfold ShOk
        rw [hb]
        intro h5
        rcases h5 with h5 | h5
        · exact h4 h5.2.2.1
        · cases h5.1
    · unfold ShOk
      rw [hb]
      intro h5
      rcases h5 with h5 | h5
      · exact h1 h5.2.1
      · cases h5.1
  · have hb' : b = false := by simpa using hb
    rw [beq_iff_eq]
    unfold ShOk
    rw [hb']
    constructor
    · intro h2; exact ⟨hok, .inr ⟨rfl, by omega, by omega⟩⟩
    · intro h2
      rcases h2.2 with h3 | h3
      · cases h3.1
      · omega
  · have hb' : b = false := by simpa using hb
    unfold ShOk
    rw [hb']
    intro h2
    rcases h2.2 with h3 | h3
    · cases h3.1
    · omega
theorem impl_shapeOk' {cs : List Cls} (hs : SmallC cs) (n : Int) (b : Bool) {l m : List Int} (hl : l.length ≤ 1048576) (hm : m.length ≤ 1048576) (il : I64 l) (im : I64 m) :
    Evp (fun k => impl_shapeOk.f k cs n b l m) (fun r => r = true ↔ ShOk cs n b l m) := by
  have hl0 := hs.1
  unfold impl_shapeOk.f
  refine Evp.ite (fun hb => ?_) (fun hb => Evp.ite (fun h1 => Evp.pure _ ?_) (fun h1 => Evp.pure _ (iff_no ?_)))
  · have jt : ¬ ShOk cs n b l m → Evp (fun k => impl_shapeOk.j0 k cs true b l m) (fun r => r = true ↔ ShOk cs n b l m) := fun h =>
      Evp.step (f := fun k => _) (fun k => by rw [impl_shapeOk.j0]) (Evp.yes rfl (Evp.pure _ (iff_no h)))
    refine Evp.ite (fun h1 => ?_) (fun h1 => jt ?_)
    · by_cases h4 : m.length ≤ 4
      · rw [decide_eq_false (by omega)]
        refine Evp.step (f := fun k => _) (fun k => by rw [impl_shapeOk.j0]) (Evp.no (by decide) ?_)
        have k1 : ∀ i, i ≤ m.length → Evp (fun k => impl_shapeOk.l1 k cs m (m.length : Int) (i : Int)) (fun r => r = true ↔ (∀ j, i ≤ j → j < m.length → TyOk cs.length (m.getD j 0) ∧ m.getD j 0 ≠ 0) ∧ True) := by
          refine Evp.for_ ?_ (fun i hi ih => ?_)
          · refine Evp.step (f := fun k => _) (fun k => by rw [impl_shapeOk.l1]) (Evp.no (by omega) (Evp.pure _ (all_end (iff_yes trivial))))
          · obtain ⟨q, hq, hq2⟩ := kindOf_ty (n := cs.length) (t := m.getD i 0) (by omega) (im.at hi).1 (im.at hi).2
            refine Evp.step (f := fun k => _) (fun k => by rw [impl_shapeOk.l1, rdN, hq, Option.bind_some]) (Evp.yes (by omega) (Evp.yes (by omega) (Evp.yes (by omega) ?_)))
            refine Evp.ite (fun h6 => Evp.pure _ (all_stop hi fun h7 => h7.2 h6)) (fun h6 => ?_)
            rcases hq2 with ⟨h7, rfl⟩ | ⟨h7, rfl⟩
            · refine Evp.no (by have := tyOk_iff.1 h7; omega) ?_
              rw [w64' hi (by omega)]
              exact ih.mono fun r hr => all_step (Q := fun j => TyOk cs.length (m.getD j 0) ∧ m.getD j 0 ≠ 0) ⟨h7, h6⟩ hr
            · exact Evp.yes rfl (Evp.pure _ (all_stop hi fun h8 => h7 h8.1))
        have k0 : ∀ i, i ≤ l.length → Evp (fun k => impl_shapeOk.l0 k cs l (l.length : Int) (i : Int) b l m) (fun r => r = true ↔ (∀ j, i ≤ j → j < l.length → TyOk cs.length (l.getD j 0)) ∧ ((∀ j, 0 ≤ j → j < m.length → TyOk cs.length (m.getD j 0) ∧ m.getD j 0 ≠ 0) ∧ True)) := by
          refine Evp.for_ ?_ (fun i hi ih => ?_)
          · refine Evp.step (f := fun k => _) (fun k => by rw [impl_shapeOk.l0]) (Evp.no (by omega) ?_)
            exact (k1 0 (Nat.zero_le _)).mono fun r hr => all_end hr
          · obtain ⟨q, hq, hq2⟩ := kindOf_ty (n := cs.length) (t := l.getD i 0) (by omega) (il.at hi).1 (il.at hi).2
            refine Evp.step (f := fun k => _) (fun k => by rw [impl_shapeOk.l0, rdN, hq, Option.bind_some]) (Evp.yes (by omega) (Evp.yes (by omega) (Evp.yes (by omega) ?_)))
            rcases hq2 with ⟨h7, rfl⟩ | ⟨h7, rfl⟩
            · refine Evp.no (by have := tyOk_iff.1 h7; omega) ?_
              rw [w64' hi (by omega)]
              exact ih.mono fun r hr => all_step (Q := fun j => TyOk cs.length (l.getD j 0)) h7 hr
            · exact Evp.yes rfl (Evp.pure _ (all_stop hi h7))
        refine (k0 0 (Nat.zero_le _)).mono fun r hr => hr.trans ?_
        rw [all_mem (Q := fun t => TyOk cs.length t), all_mem (Q := fun t => TyOk cs.length t ∧ t ≠ 0)]
        unfold ShOk
        rw [hb]
        constructor
        · intro h5; exact .inl ⟨rfl, h1, h4, h5.1, h5.2.1⟩
        · intro h5
          rcases h5 with h6 | h6
          · exact ⟨h6.2.2.2.1, h6.2.2.2.2, trivial⟩
          · cases h6.1
      · rw [decide_eq_true (by omega)]
        refine jt ?_
        unfold ShOk
        rw [hb]
        intro h5
        rcases h5 with h5 | h5
        · exact h4 h5.2.2.1
        · cases h5.1
    · unfold ShOk
      rw [hb]
      intro h5
      rcases h5 with h5 | h5
      · exact h1 h5.2.1
      · cases h5.1
  · have hb' : b = false := by simpa using hb
    rw [beq_iff_eq]
    unfold ShOk
    rw [hb']
    constructor
    · intro h2; exact .inr ⟨rfl, by omega, by omega⟩
    · intro h2
      rcases h2 with h3 | h3
      · cases h3.1
      · omega
  · have hb' : b = false := by simpa using hb
    unfold ShOk
    rw [hb']
    intro h2
    rcases h2 with h3 | h3
    · cases h3.1
    · omega
end Go.Proofs.Ytedodaifpekahaa.Kit

end
section

namespace Go.Proofs.Ytedodaifpekahaa.Kit
open Go Go.RowKit Go.Proofs.YtedodaifpekahaaW.PrintWords Go.Proofs.Ytedodaifpekahaa.P
set_option linter.unusedVariables false
abbrev Mth := S46
abbrev Ins := S67
abbrev Shp_ := S70
abbrev Cth := S73
theorem rdX {xs : List Ins} (i : Nat) : rd_T67 xs (i : Int) = xs.getD i z67 := rfl
theorem rdS {xs : List Shp_} (i : Nat) : rd_T70 xs (i : Int) = xs.getD i z70 := rfl
theorem rdK {xs : List Cth} (i : Nat) : rd_T73 xs (i : Int) = xs.getD i z73 := rfl
def self_ (a0 : Int) : Int := if 0 ≤ a0 then 1 else 0
theorem self_no {a0 : Int} (h : a0 < 0) : self_ a0 = 0 := if_neg (by omega)
theorem self_yes {a0 : Int} (h : 0 ≤ a0) : self_ a0 = 1 := if_pos h
def HeadA (n : Nat) (a0 a1 : Int) : Prop := (a0 = -1 ∧ a1 = 0) ∨ (1 ≤ a0 ∧ a0 < (n : Int) ∧ 0 ≤ a1 ∧ a1 < 3)
def HeadB (n : Nat) (a0 : Int) (l2 : List Int) (a3 a4 : Int) : Prop := l2.length ≤ 2 ∧ FieldTy n a3 ∧ (∀ t ∈ l2, FieldTy n t) ∧ a4 ≤ 3 ∧ self_ a0 + (l2.length : Int) ≤ a4
def HeadOk (n : Nat) (a0 a1 : Int) (l2 : List Int) (a3 a4 : Int) : Prop := HeadA n a0 a1 ∧ HeadB n a0 l2 a3 a4
theorem given_eq {a0 a1 : Int} {l2 : List Int} {a3 a4 : Int} {l5 : List Ins} {l6 : List Shp_} {l7 : List Cth} (hl : l2.length ≤ 1048576) : ∃ g, impl_given.f a0 a1 l2 a3 a4 l5 l6 l7 = some g ∧ (g.length : Int) = self_ a0 + (l2.length : Int) := by
  unfold impl_given.f
  by_cases h : a0 ≥ 0
  · rw [if_pos h, if_pos (by simp)]
    simp only [Option.bind_some]
    rw [if_pos (by simp; omega), self_yes h]
    exact ⟨_, rfl, by simp; omega⟩
  · rw [if_neg h, if_pos (by simp; omega), self_no (by omega)]
    exact ⟨_, rfl, by simp⟩
theorem impl_head {cs : List Cls} (hs : SmallC cs) (ms : List Mth) {a0 a1 : Int} {l2 : List Int} {a3 a4 : Int} (l5 : List Ins) (l6 : List Shp_) (l7 : List Cth) (h0 : -9223372036854775808 ≤ a3) (h1 : a3 ≤ 9223372036854775807) (hl : l2.length ≤ 1048576) (il : I64 l2) :
    Evp (fun k => impl_headOk.f k cs ms a0 a1 l2 a3 a4 l5 l6 l7) (fun r => r = true ↔ HeadOk cs.length a0 a1 l2 a3 a4) := by
  have hs0 := hs.1
  have jt : ∀ P : Prop, ¬ P → Evp (fun k => impl_headOk.j1 k true cs ms a0 a1 l2 a3 a4 l5 l6 l7) (fun r => r = true ↔ P) := fun P h =>
    Evp.step (f := fun k => _) (fun k => by rw [impl_headOk.j1]) (Evp.yes rfl (Evp.pure _ (iff_no h)))
  have j0 : Evp (fun k => impl_headOk.j0 k cs ms a0 a1 l2 a3 a4 l5 l6 l7) (fun r => r = true ↔ HeadB cs.length a0 l2 a3 a4) := by
    refine Evp.step (f := fun k => _) (fun k => by rw [impl_headOk.j0]) (Evp.ite (fun h2 => jt _ fun h3 => ?_) (fun h2 => ?_))
    · have := h3.1; omega
    obtain ⟨b, hb, hb2⟩ := fieldType_eq (n := cs.length) (by omega) h0 h1
    simp only [hb, Option.bind_some]
    cases b with
    | false => exact jt _ fun h3 => by have := hb2.2 h3.2.1; cases this
    | true =>
      have h3 := hb2.1 rfl
      refine Evp.step (f := fun k => _) (fun k => by rw [impl_headOk.j1]) (Evp.no (by decide) ?_)
      obtain ⟨g, hg, hg2⟩ := given_eq (a0 := a0) (a1 := a1) (a3 := a3) (a4 := a4) (l5 := l5) (l6 := l6) (l7 := l7) hl
      have k0 : ∀ i, i ≤ l2.length → Evp (fun k => impl_headOk.l0 k l2 (l2.length : Int) (i : Int) cs ms a0 a1 l2 a3 a4 l5 l6 l7) (fun r => r = true ↔ (∀ j, i ≤ j → j < l2.length → FieldTy cs.length (l2.getD j 0)) ∧ (a4 ≤ 3 ∧ self_ a0 + (l2.length : Int) ≤ a4)) := by
        refine Evp.for_ ?_ (fun i hi ih => ?_)
        · refine Evp.step (f := fun k => _) (fun k => by rw [impl_headOk.l0]) (Evp.no (by omega) (Evp.ite (fun h4 => ?_) (fun h4 => Evp.pure _ (all_end (iff_no fun h5 => h4 h5.1)))))
          simp only [hg, Option.bind_some]
          refine Evp.pure _ (all_end ?_)
          rw [decide_eq_true_iff, ge_iff_le, hg2]
          exact ⟨fun h5 => ⟨h4, h5⟩, fun h5 => h5.2⟩
        · refine Evp.step (f := fun k => _) (fun k => by rw [impl_headOk.l0, rdN]) (Evp.yes (by omega) (Evp.yes (by omega) (Evp.yes (by omega) ?_)))
          obtain ⟨c, hc, hc2⟩ := fieldType_eq (n := cs.length) (by omega) (il.at hi).1 (il.at hi).2
          simp only [hc, Option.bind_some]
          refine Evp.ite (fun h5 => ?_) (fun h5 => Evp.pure _ (all_stop hi fun h7 => h5 (hc2.2 h7)))
          rw [w64' hi (by omega)]
          exact ih.mono fun r hr => all_step (Q := fun j => FieldTy cs.length (l2.getD j 0)) (hc2.1 h5) hr
      refine (k0 0 (Nat.zero_le _)).mono fun r hr => hr.trans ?_
      rw [all_mem (Q := fun t => FieldTy cs.length t)]
      unfold HeadB
      exact ⟨fun h5 => ⟨by omega, h3, h5.1, h5.2.1, h5.2.2⟩, fun h5 => ⟨h5.2.2.1, h5.2.2.2.1, h5.2.2.2.2⟩⟩
  have fin : HeadA cs.length a0 a1 → Evp (fun k => impl_headOk.j0 k cs ms a0 a1 l2 a3 a4 l5 l6 l7) (fun r => r = true ↔ HeadOk cs.length a0 a1 l2 a3 a4) := fun ha => j0.mono fun r hr => hr.trans ⟨fun h => ⟨ha, h⟩, fun h => h.2⟩
  have no : ¬ HeadA cs.length a0 a1 → Evp (fun k => some false) (fun r => r = true ↔ HeadOk cs.length a0 a1 l2 a3 a4) := fun ha => Evp.pure _ (iff_no fun h => ha h.1)
  unfold impl_headOk.f
  refine Evp.ite (fun h2 => Evp.ite (fun h3 => fin (.inl ⟨h2, h3⟩)) (fun h3 => no ?_)) (fun h2 => Evp.ite (fun h3 => no ?_) (fun h3 => ?_))
  · rintro (h4 | h4) <;> omega
  · rintro (h4 | h4) <;> omega
  obtain ⟨x, hx, hx2⟩ := impl_isClass_eq cs a0
  simp only [hx, Option.bind_some]
  refine Evp.ite (fun h4 => Evp.ite (fun h5 => no ?_) (fun h5 => Evp.ite (fun h6 => no ?_) (fun h6 => fin (.inr ?_)))) (fun h4 => no ?_)
  · rintro (h7 | h7) <;> omega
  · rintro (h7 | h7) <;> omega
  · have := hx2.1 h4; omega
  · rintro (h7 | h7)
    · omega
    · exact h4 (hx2.2 (by omega))
theorem spec_head {cs : List Cls} (hs : SmallC cs) (ms : List Mth) {a0 a1 : Int} {l2 : List Int} {a3 a4 : Int} (l5 : List Ins) (l6 : List Shp_) (l7 : List Cth) (hl : l2.length ≤ 1048576) :
    Evp (fun k => spec_l3Head.f k cs ms a0 a1 l2 a3 a4 l5 l6 l7) (fun r => r = true ↔ HeadOk cs.length a0 a1 l2 a3 a4) := by
  have hs0 := hs.1
  have jt : ∀ P : Prop, ¬ P → Evp (fun k => spec_l3Head.j1 k true cs ms a0 a1 l2 a3 a4 l5 l6 l7) (fun r => r = true ↔ P) := fun P h =>
    Evp.step (f := fun k => _) (fun k => by rw [spec_l3Head.j1]) (Evp.yes rfl (Evp.pure _ (iff_no h)))
  have key : Evp (fun k => spec_l3Head.j0 k (self_ a0) cs ms a0 a1 l2 a3 a4 l5 l6 l7) (fun r => r = true ↔ HeadOk cs.length a0 a1 l2 a3 a4) := by
    have hself : 0 ≤ self_ a0 ∧ self_ a0 ≤ 1 := by unfold self_; split <;> omega
    have noA : (¬ (1 ≤ a0 ∧ a0 < (cs.length : Int) ∨ a0 = -1)) → ¬ HeadOk cs.length a0 a1 l2 a3 a4 := fun h h2 => by
      rcases h2.1 with h3 | h3 <;> omega
    refine Evp.step (f := fun k => _) (fun k => by rw [spec_l3Head.j0]) (Evp.ite (fun h2 => jt _ (noA (by omega))) (fun h2 => ?_))
    rw [in_eq, w64 (n := (cs.length : Int) - 1) (by omega) (by omega)]
    simp only [Option.bind_some, decide_eq_true_iff]
    refine Evp.ite (fun h3 => ?_) (fun h3 => jt _ (noA (by omega)))
    refine Evp.ite (fun h4 => jt _ fun h5 => ?_) (fun h4 => ?_)
    · have := h5.2.1; omega
    obtain ⟨b, hb, hb2⟩ := field_eq (cs := cs) (t := a3) (by omega)
    simp only [hb, Option.bind_some]
    refine Evp.ite (fun h5 => ?_) (fun h5 => jt _ fun h6 => h5 (hb2.2 h6.2.2.1))
    rw [in_eq, w64 (by omega) (by omega)]
    simp only [Option.bind_some]
    by_cases h6 : self_ a0 + (l2.length : Int) ≤ a4 ∧ a4 ≤ 3
    · rw [decide_eq_true h6]
      refine Evp.step (f := fun k => _) (fun k => by rw [spec_l3Head.j1]) (Evp.no (by decide) ?_)
      have k0 : ∀ i, i ≤ l2.length → Evp (fun k => spec_l3Head.l0 k (i : Int) cs ms a0 a1 l2 a3 a4 l5 l6 l7) (fun r => r = true ↔ (∀ j, i ≤ j → j < l2.length → FieldTy cs.length (l2.getD j 0)) ∧ HeadA cs.length a0 a1) := by
        refine Evp.for_ ?_ (fun i hi ih => ?_)
        · refine Evp.step (f := fun k => _) (fun k => by rw [spec_l3Head.l0]) (Evp.no (by omega) ?_)
          rw [in_eq]
          simp only [Option.bind_some, decide_eq_true_iff]
          refine Evp.ite (fun h7 => Evp.ite (fun h8 => Evp.pure _ (all_end (iff_yes (.inr ?_)))) (fun h8 => Evp.no (by omega) (Evp.pure _ (all_end (iff_no ?_))))) (fun h7 => Evp.yes (by omega) (Evp.pure _ (all_end ?_)))
          · omega
          · rintro (h9 | h9) <;> omega
          · rw [beq_iff_eq]
            exact ⟨fun h9 => .inl ⟨by omega, h9⟩, fun h9 => by rcases h9 with h10 | h10 <;> omega⟩
        · refine Evp.step (f := fun k => _) (fun k => by rw [spec_l3Head.l0, rdN]) (Evp.yes (by omega) (Evp.yes (by omega) ?_))
          obtain ⟨c, hc, hc2⟩ := field_eq (cs := cs) (t := l2.getD i 0) (by omega)
          simp only [hc, Option.bind_some]
          refine Evp.ite (fun h5 => ?_) (fun h5 => Evp.pure _ (all_stop hi fun h7 => h5 (hc2.2 h7)))
          rw [w64' hi (by omega)]
          exact ih.mono fun r hr => all_step (Q := fun j => FieldTy cs.length (l2.getD j 0)) (hc2.1 h5) hr
      refine (k0 0 (Nat.zero_le _)).mono fun r hr => hr.trans ?_
      rw [all_mem (Q := fun t => FieldTy cs.length t)]
      exact ⟨fun h7 => ⟨h7.2, by omega, hb2.1 h5, h7.1, h6.2, h6.1⟩, fun h7 => ⟨h7.2.2.2.1, h7.1⟩⟩
    · rw [decide_eq_false h6]
      exact jt _ fun h7 => h6 ⟨h7.2.2.2.2.2, h7.2.2.2.2.1⟩
  unfold spec_l3Head.f
  refine Evp.ite (fun h => ?_) (fun h => ?_)
  · have := key
    rw [self_yes h] at this
    exact this
  · have := key
    rw [self_no (by omega)] at this
    exact this
end Go.Proofs.Ytedodaifpekahaa.Kit

end
section

namespace Go.Proofs.Ytedodaifpekahaa.Kit
open Go Go.RowKit Go.Proofs.YtedodaifpekahaaW.PrintWords Go.Proofs.Ytedodaifpekahaa.P
set_option linter.unusedVariables false
theorem impl_flds {cs : List Cls} (h : ClsOk cs) : ∀ a : Nat, a < cs.length → Evp (fun k => impl_classFields.f k cs (a : Int)) (fun r => Flds cs a r ∧ r.length ≤ 2 * a) := by
  have hhi := h.hi
  intro a
  induction a using Nat.strongRecOn with
  | _ a ih =>
    intro ha
    refine Evp.step (f := fun k => _) (fun k => by rw [impl_classFields.f]) (Evp.ite (fun h0 => Evp.pure _ ?_) (fun h0 => ?_))
    · have : a = 0 := by omega
      subst this
      exact ⟨.root, Nat.le_refl _⟩
    · obtain ⟨p, hp, hlt⟩ := h.sup_nat (i := a) (by omega) ha
      have e : (rd_T76 cs (a : Int)).f0 = (p : Int) := hp
      have hl2 := h.len2 ha
      refine Evp.yes (by omega) (Evp.yes (by omega) ?_)
      rw [e, rdFlds]
      refine Evp.bind (ih p hlt (by omega)) fun l hl => Evp.yes (by have := hl.2; omega) (Evp.pure _ ⟨.step p (by omega) hp hl.1, ?_⟩)
      have := hl.2
      rw [List.length_append]; omega
theorem spec_flds {cs : List Cls} (h : ClsOk cs) : ∀ a : Nat, a < cs.length → Evp (fun k => spec_l2Fields.f k cs (a : Int)) (fun r => Flds cs a r ∧ r.length ≤ 2 * a) := by
  have hhi := h.hi
  intro a
  induction a using Nat.strongRecOn with
  | _ a ih =>
    intro ha
    refine Evp.step (f := fun k => _) (fun k => by rw [spec_l2Fields.f]) (Evp.ite (fun h0 => Evp.pure _ ?_) (fun h0 => ?_))
    · have : a = 0 := by omega
      subst this
      exact ⟨.root, Nat.le_refl _⟩
    · obtain ⟨p, hp, hlt⟩ := h.sup_nat (i := a) (by omega) ha
      have e : (rd_T76 cs (a : Int)).f0 = (p : Int) := hp
      have hl2 := h.len2 ha
      refine Evp.yes (by omega) (Evp.yes (by omega) ?_)
      rw [e, rdFlds]
      refine Evp.bind (ih p hlt (by omega)) fun l hl => Evp.yes (by have := hl.2; omega) (Evp.pure _ ⟨.step p (by omega) hp hl.1, ?_⟩)
      have := hl.2
      rw [List.length_append]; omega
end Go.Proofs.Ytedodaifpekahaa.Kit

end
section

namespace Go.Proofs.Ytedodaifpekahaa.Kit
open Go Go.RowKit Go.Proofs.YtedodaifpekahaaW.PrintWords Go.Proofs.Ytedodaifpekahaa.P
set_option linter.unusedVariables false
set_option linter.unusedSimpArgs false
def OpOk (cs : List Cls) (ms : List Mth) (a4 : Int) (nc : Nat) (xa what n : Int) : Prop :=
  if what = 1 then -128 ≤ n ∧ n ≤ 127 else if what = 2 then 0 ≤ n ∧ n < a4 else if what = 3 then 1 ≤ n ∧ n ≤ 4 else if what = 4 then 0 ≤ n ∧ n < (nc : Int) else if what = 5 then 0 ≤ n ∧ n < (cs.length : Int) else if what = 6 then n = 0 ∨ n = 1 else
  if what = 7 then 0 ≤ n ∧ n < (ms.length : Int) ∧ (ms.getD n.toNat z46).f0 = -1 else if what = 8 then 0 ≤ n ∧ ∃ l, Flds cs xa.toNat l ∧ n < (l.length : Int) else if what = 9 then 0 ≤ n ∧ n < 3 else n = 0
def InsOk (cs : List Cls) (ms : List Mth) (a4 : Int) (nc : Nat) (x : Ins) : Prop := ∃ p q, wantFind x.f0 wantL = some (p, q) ∧ OpOk cs ms a4 nc x.f1 p x.f1 ∧ OpOk cs ms a4 nc x.f1 q x.f2
theorem two_evp {A B : Prop} [Decidable A] [Decidable B] : Evp (fun _ => if A then some (decide B) else some false) (fun r => r = true ↔ A ∧ B) := by
  refine Evp.ite (fun h => Evp.pure _ ?_) (fun h => Evp.pure _ (iff_no fun h2 => h h2.1))
  rw [decide_eq_true_iff]
  exact ⟨fun h2 => ⟨h, h2⟩, fun h2 => h2.2⟩
theorem impl_operand {cs : List Cls} (hok : ClsOk cs) (ms : List Mth) {a0 a1 : Int} {l2 : List Int} {a3 a4 : Int} (l5 : List Ins) (l6 : List Shp_) (l7 : List Cth) {x0 xa x2 what n : Int} (h8 : what = 8 → 0 ≤ xa ∧ xa < (cs.length : Int)) :
    Evp (fun k => impl_operandOk.f k cs ms a0 a1 l2 a3 a4 l5 l6 l7 x0 xa x2 what n) (fun r => r = true ↔ OpOk cs ms a4 l5.length xa what n) := by
  unfold impl_operandOk.f OpOk
  by_cases h1 : what = 1
  · simp only [if_pos h1]
    unfold impl_isWord.f
    exact Evp.bind two_evp fun r hr => Evp.pure _ hr
  simp only [if_neg h1]
  by_cases h2 : what = 2
  · simp only [if_pos h2]; exact two_evp
  simp only [if_neg h2]
  by_cases h3 : what = 3
  · simp only [if_pos h3]; exact two_evp
  simp only [if_neg h3]
  by_cases h4 : what = 4
  · simp only [if_pos h4]; exact two_evp
  simp only [if_neg h4]
  by_cases h5 : what = 5
  · simp only [if_pos h5]
    obtain ⟨x, hx, hx2⟩ := impl_isClass_eq cs n
    simp only [hx, Option.bind_some]
    exact Evp.pure _ hx2
  simp only [if_neg h5]
  by_cases h6 : what = 6
  · simp only [if_pos h6]
    refine Evp.ite (fun h => Evp.pure _ (iff_yes (.inl h))) (fun h => Evp.pure _ ?_)
    rw [beq_iff_eq]
    exact ⟨fun h2 => .inr h2, fun h2 => h2.resolve_left h⟩
  simp only [if_neg h6]
  by_cases h7 : what = 7
  · simp only [if_pos h7]
    refine Evp.ite (fun h => Evp.ite (fun h' => Evp.yes h (Evp.pure _ ?_)) (fun h' => Evp.pure _ (iff_no fun h2 => h' h2.2.1))) (fun h => Evp.pure _ (iff_no fun h2 => h h2.1))
    rw [beq_iff_eq]
    exact ⟨fun h2 => ⟨h, h', h2⟩, fun h2 => h2.2.2⟩
  simp only [if_neg h7]
  by_cases h8' : what = 8
  · simp only [if_pos h8']
    obtain ⟨hx0, hx1⟩ := h8 h8'
    refine Evp.ite (fun h => ?_) (fun h => Evp.pure _ (iff_no fun h2 => h h2.1))
    have := impl_flds hok xa.toNat (by omega)
    rw [show ((xa.toNat : Nat) : Int) = xa by omega] at this
    refine Evp.bind this fun l hl => Evp.pure _ ?_
    rw [decide_eq_true_iff]
    exact ⟨fun h2 => ⟨h, l, hl.1, h2⟩, fun h2 => by obtain ⟨_, l', hl', h3⟩ := h2; rw [hl.1.fn hl']; exact h3⟩
  simp only [if_neg h8']
  by_cases h9 : what = 9
  · simp only [if_pos h9]; exact two_evp
  simp only [if_neg h9]
  exact Evp.pure _ (by rw [beq_iff_eq])
theorem wantFind_mem {n : Int} : ∀ {l : List (Int × Int × Int)} {r : Int × Int}, wantFind n l = some r → ∃ e ∈ l, e.2 = r
  | [], _, h => by cases h
  | e :: l, r, h => by
    unfold wantFind at h
    split at h
    · exact ⟨e, List.mem_cons_self, Option.some.inj h⟩
    · obtain ⟨x, hx, hr⟩ := wantFind_mem h
      exact ⟨x, List.mem_cons_of_mem _ hx, hr⟩
theorem want_8 {n p q : Int} (h : wantFind n wantL = some (p, q)) : p ≠ 8 ∧ (q = 8 → p = 5) := by
  obtain ⟨e, he, hr⟩ := wantFind_mem h
  have key : ∀ e ∈ wantL, e.2.1 ≠ 8 ∧ (e.2.2 = 8 → e.2.1 = 5) := by decide
  have := key e he
  rw [hr] at this
  exact this
def ShOk_ (cs : List Cls) (a4 : Int) (s : Shp_) : Prop := ShOk cs a4 s.f0 s.f1 s.f2
structure SmallS (s : Shp_) : Prop where
  l1 : s.f1.length ≤ 1048576
  l2 : s.f2.length ≤ 1048576
  i1 : I64 s.f1
  i2 : I64 s.f2
def CodeOk (cs : List Cls) (ms : List Mth) (a4 : Int) (l5 : List Ins) (l6 : List Shp_) : Prop := (1 ≤ l5.length ∧ l5.length ≤ 12 ∧ l6.length = l5.length) ∧ (∀ j, 0 ≤ j → j < l5.length → InsOk cs ms a4 l5.length (l5.getD j z67)) ∧ (∀ j, 0 ≤ j → j < l6.length → ShOk_ cs a4 (l6.getD j z70))
theorem impl_code {cs : List Cls} (hs : SmallC cs) (hok : ClsOk cs) (ms : List Mth) {a0 a1 : Int} {l2 : List Int} {a3 a4 : Int} (l5 : List Ins) (l6 : List Shp_) (l7 : List Cth) (b : Int) (h6 : ∀ j, j < l6.length → SmallS (l6.getD j z70)) (hn5 : l5.length ≤ 1048576) (hn6 : l6.length ≤ 1048576) :
    Evp (fun k => impl_codeOk.f k cs ms a0 a1 l2 a3 a4 l5 l6 l7 b) (fun r => r = true ↔ CodeOk cs ms a4 l5 l6) := by
  have jt : ¬ (1 ≤ l5.length ∧ l5.length ≤ 12 ∧ l6.length = l5.length) → Evp (fun k => impl_codeOk.j0 k true cs ms a0 a1 l2 a3 a4 l5 l6 l7) (fun r => r = true ↔ CodeOk cs ms a4 l5 l6) := fun h =>
    Evp.step (f := fun k => _) (fun k => by rw [impl_codeOk.j0]) (Evp.yes rfl (Evp.pure _ (iff_no fun h2 => h h2.1)))
  unfold impl_codeOk.f
  refine Evp.ite (fun h1 => jt (by omega)) (fun h1 => Evp.ite (fun h2 => jt (by omega)) (fun h2 => ?_))
  by_cases he : l6.length = l5.length
  · rw [show ((l6.length : Int) != (l5.length : Int)) = false by simp; omega]
    refine Evp.step (f := fun k => _) (fun k => by rw [impl_codeOk.j0]) (Evp.no (by decide) ?_)
    have k1 : ∀ i, i ≤ l6.length → Evp (fun k => impl_codeOk.l1 k l6 (l6.length : Int) (i : Int) cs ms a0 a1 l2 a3 a4 l5 l6 l7) (fun r => r = true ↔ (∀ j, i ≤ j → j < l6.length → ShOk_ cs a4 (l6.getD j z70)) ∧ True) := by
      refine Evp.for_ ?_ (fun i hi ih => ?_)
      · exact Evp.step (f := fun k => _) (fun k => by rw [impl_codeOk.l1]) (Evp.no (by omega) (Evp.pure _ (all_end (iff_yes trivial))))
      · have hss := h6 i hi
        refine Evp.step (f := fun k => _) (fun k => by rw [impl_codeOk.l1, rdS]) (Evp.yes (by omega) (Evp.yes (by omega) (Evp.yes (by omega) ?_)))
        refine Evp.bind (impl_shapeOk' hs a4 _ hss.l1 hss.l2 hss.i1 hss.i2) fun c hc => Evp.ite (fun h5 => ?_) (fun h5 => Evp.pure _ (all_stop hi fun h7 => h5 (hc.2 h7)))
        rw [w64' hi (by omega)]
        exact ih.mono fun r hr => all_step (Q := fun j => ShOk_ cs a4 (l6.getD j z70)) (hc.1 h5) hr
    have k0 : ∀ i, i ≤ l5.length → Evp (fun k => impl_codeOk.l0 k l5 (l5.length : Int) (i : Int) cs ms a0 a1 l2 a3 a4 l5 l6 l7) (fun r => r = true ↔ (∀ j, i ≤ j → j < l5.length → InsOk cs ms a4 l5.length (l5.getD j z67)) ∧ ((∀ j, 0 ≤ j → j < l6.length → ShOk_ cs a4 (l6.getD j z70)) ∧ True)) := by
      refine Evp.for_ ?_ (fun i hi ih => ?_)
      · refine Evp.step (f := fun k => _) (fun k => by rw [impl_codeOk.l0]) (Evp.no (by omega) ?_)
        exact (k1 0 (Nat.zero_le _)).mono fun r hr => all_end hr
      · refine Evp.step (f := fun k => _) (fun k => by rw [impl_codeOk.l0, rdX]) (Evp.yes (by omega) (Evp.yes (by omega) (Evp.yes (by omega) ?_)))
        unfold impl_wantOf.f
        simp only [Option.bind_some]
        cases hw : wantFind (l5.getD i z67).f0 wantL with
        | none =>
          refine Evp.no (by decide) (Evp.pure _ (all_stop hi fun h7 => ?_))
          obtain ⟨p, q, h8, _⟩ := h7
          rw [hw] at h8; cases h8
        | some pq =>
          obtain ⟨p, q⟩ := pq
          have h8 := want_8 hw
          dsimp only
          refine Evp.yes rfl (Evp.bind (impl_operand hok ms l5 l6 l7 (fun h => absurd h h8.1)) fun c hc => Evp.ite (fun h9 => ?_) (fun h9 => Evp.pure _ (all_stop hi fun h7 => ?_)))
          · refine Evp.bind (impl_operand hok ms l5 l6 l7 (fun h => ?_)) fun d hd => Evp.ite (fun h10 => ?_) (fun h10 => Evp.pure _ (all_stop hi fun h7 => ?_))
            · have := hc.1 h9
              rw [h8.2 h] at this
              unfold OpOk at this
              simpa using this
            · rw [w64' hi (by omega)]
              exact ih.mono fun r hr => all_step (Q := fun j => InsOk cs ms a4 l5.length (l5.getD j z67)) ⟨p, q, hw, hc.1 h9, hd.1 h10⟩ hr
            · obtain ⟨p', q', h11, _, h12⟩ := h7
              rw [hw] at h11
              cases h11
              exact h10 (hd.2 h12)
          · obtain ⟨p', q', h11, h12, _⟩ := h7
            rw [hw] at h11
            cases h11
            exact h9 (hc.2 h12)
    refine (k0 0 (Nat.zero_le _)).mono fun r hr => hr.trans ?_
    exact ⟨fun h => ⟨⟨by omega, by omega, he⟩, h.1, h.2.1⟩, fun h => ⟨h.2.1, h.2.2, trivial⟩⟩
  · rw [show ((l6.length : Int) != (l5.length : Int)) = true by simp; omega]
    exact jt (by omega)
end Go.Proofs.Ytedodaifpekahaa.Kit

end
section

namespace Go.Proofs.Ytedodaifpekahaa.Kit
open Go Go.RowKit Go.Proofs.YtedodaifpekahaaW.PrintWords Go.Proofs.Ytedodaifpekahaa.P
set_option linter.unusedVariables false
set_option linter.unusedSimpArgs false
section
variable {cs : List Cls} {ms : List Mth} {a4 : Int} {nc : Nat} {xa n : Int}
theorem op0 : OpOk cs ms a4 nc xa 0 n ↔ n = 0 := by simp [OpOk]
theorem op1 : OpOk cs ms a4 nc xa 1 n ↔ -128 ≤ n ∧ n ≤ 127 := by simp [OpOk]
theorem op2 : OpOk cs ms a4 nc xa 2 n ↔ 0 ≤ n ∧ n < a4 := by simp [OpOk]
theorem op3 : OpOk cs ms a4 nc xa 3 n ↔ 1 ≤ n ∧ n ≤ 4 := by simp [OpOk]
theorem op4 : OpOk cs ms a4 nc xa 4 n ↔ 0 ≤ n ∧ n < (nc : Int) := by simp [OpOk]
theorem op5 : OpOk cs ms a4 nc xa 5 n ↔ 0 ≤ n ∧ n < (cs.length : Int) := by simp [OpOk]
theorem op6 : OpOk cs ms a4 nc xa 6 n ↔ n = 0 ∨ n = 1 := by simp [OpOk]
theorem op7 : OpOk cs ms a4 nc xa 7 n ↔ 0 ≤ n ∧ n < (ms.length : Int) ∧ (ms.getD n.toNat z46).f0 = -1 := by simp [OpOk]
theorem op8 : OpOk cs ms a4 nc xa 8 n ↔ 0 ≤ n ∧ ∃ l, Flds cs xa.toNat l ∧ n < (l.length : Int) := by simp [OpOk]
theorem op9 : OpOk cs ms a4 nc xa 9 n ↔ 0 ≤ n ∧ n < 3 := by simp [OpOk]
end
theorem fin2 {A : Prop} [Decidable A] {n : Int} : Evp (fun _ => if decide A = true then some (n == 0) else some false) (fun r => r = true ↔ A ∧ n = 0) := by
  refine Evp.ite (fun h => Evp.pure _ ?_) (fun h => Evp.pure _ (iff_no fun h2 => h (decide_eq_true h2.1)))
  rw [beq_iff_eq]
  exact ⟨fun h2 => ⟨of_decide_eq_true h, h2⟩, fun h2 => h2.2⟩
theorem want_none {n : Int} (h : n < 1 ∨ 24 < n) : wantFind n wantL = none := by
  unfold wantL
  repeat (unfold wantFind; rw [if_neg (by dsimp only; omega)])
  rfl
theorem ins_leaf {cs : List Cls} {ms : List Mth} {a4 : Int} {nc : Nat} {x : Ins} {n p q : Int} {r : Bool} (hn : x.f0 = n) (hw : wantFind n wantL = some (p, q)) (h : r = true ↔ OpOk cs ms a4 nc x.f1 p x.f1 ∧ OpOk cs ms a4 nc x.f1 q x.f2) : r = true ↔ InsOk cs ms a4 nc x := by
  rw [h]
  constructor
  · intro h2; exact ⟨p, q, by rw [hn]; exact hw, h2⟩
  · rintro ⟨p', q', hw', h2⟩
    rw [hn, hw] at hw'
    cases hw'
    exact h2
theorem spec_ins {cs : List Cls} (hs : SmallC cs) (hok : ClsOk cs) (ms : List Mth) (hm : ms.length ≤ 1048576) {a0 a1 : Int} {l2 : List Int} {a3 a4 : Int} (h40 : 0 ≤ a4) (h41 : a4 ≤ 3) (l5 : List Ins) (hn5 : l5.length ≤ 1048576) (l6 : List Shp_) (l7 : List Cth) (x : Ins) :
    Evp (fun k => spec_l3Ins.f k cs ms a0 a1 l2 a3 a4 l5 l6 l7 x.f0 x.f1 x.f2) (fun r => r = true ↔ InsOk cs ms a4 l5.length x) := by
  have hlo := hok.lo
  have hhi := hok.hi
  unfold spec_l3Ins.f
  rw [in_eq, w64 (n := (cs.length : Int) - 1) (by omega) (by omega)]
  simp only [Option.bind_some]
  have h7 : decide (0 ≤ x.f1 ∧ x.f1 ≤ (cs.length : Int) - 1) = true ↔ 0 ≤ x.f1 ∧ x.f1 < (cs.length : Int) := by rw [decide_eq_true_iff]; omega
  generalize decide (0 ≤ x.f1 ∧ x.f1 ≤ (cs.length : Int) - 1) = x7 at h7
  have J0 : ∀ n : Int, x.f0 = n → wantFind n wantL = some (0, 0) → Evp (fun k => spec_l3Ins.j0 k x7 x.f0 (x.f0 == n) cs ms a0 a1 l2 a3 a4 l5 l6 l7 x.f0 x.f1 x.f2) (fun r => r = true ↔ InsOk cs ms a4 l5.length x) := by
    intro n hn hw
    rw [show (x.f0 == n) = true by simpa using hn]
    refine Evp.step (f := fun k => _) (fun k => by rw [spec_l3Ins.j0]) (Evp.yes rfl (Evp.ite (fun h => Evp.pure _ (ins_leaf hn hw ?_)) (fun h => Evp.pure _ (ins_leaf hn hw ?_))))
    · rw [op0, op0, beq_iff_eq]; exact ⟨fun h2 => ⟨h, h2⟩, fun h2 => h2.2⟩
    · rw [op0, op0]; exact iff_no fun h2 => h h2.1
  have J1 : ∀ n : Int, x.f0 = n → wantFind n wantL = some (2, 0) → Evp (fun k => spec_l3Ins.j1 k x7 x.f0 (x.f0 == n) cs ms a0 a1 l2 a3 a4 l5 l6 l7 x.f0 x.f1 x.f2) (fun r => r = true ↔ InsOk cs ms a4 l5.length x) := by
    intro n hn hw
    rw [show (x.f0 == n) = true by simpa using hn]
    refine Evp.step (f := fun k => _) (fun k => by rw [spec_l3Ins.j1]) (Evp.yes rfl ?_)
    rw [in_eq, w64 (n := a4 - 1) (by omega) (by omega)]
    simp only [Option.bind_some]
    refine fin2.mono fun r hr => ins_leaf hn hw (hr.trans ?_)
    rw [op2, op0]; omega
  have J2 : ∀ n : Int, x.f0 = n → wantFind n wantL = some (4, 0) → Evp (fun k => spec_l3Ins.j2 k x7 x.f0 (x.f0 == n) cs ms a0 a1 l2 a3 a4 l5 l6 l7 x.f0 x.f1 x.f2) (fun r => r = true ↔ InsOk cs ms a4 l5.length x) := by
    intro n hn hw
    rw [show (x.f0 == n) = true by simpa using hn]
    refine Evp.step (f := fun k => _) (fun k => by rw [spec_l3Ins.j2]) (Evp.yes rfl ?_)
    rw [in_eq, w64 (n := (l5.length : Int) - 1) (by omega) (by omega)]
    simp only [Option.bind_some]
    refine fin2.mono fun r hr => ins_leaf hn hw (hr.trans ?_)
    rw [op4, op0]; omega
  have J3 : ∀ n : Int, x.f0 = n → wantFind n wantL = some (5, 0) → Evp (fun k => spec_l3Ins.j3 k x7 x.f0 (x.f0 == n) cs ms x.f0 x.f1 x.f2) (fun r => r = true ↔ InsOk cs ms a4 l5.length x) := by
    intro n hn hw
    rw [show (x.f0 == n) = true by simpa using hn]
    refine Evp.step (f := fun k => _) (fun k => by rw [spec_l3Ins.j3]) (Evp.yes rfl (Evp.ite (fun h => Evp.pure _ (ins_leaf hn hw ?_)) (fun h => Evp.pure _ (ins_leaf hn hw ?_))))
    · rw [op5, op0, beq_iff_eq]; exact ⟨fun h2 => ⟨h7.1 h, h2⟩, fun h2 => h2.2⟩
    · rw [op5, op0]; exact iff_no fun h2 => h (h7.2 h2.1)
  have J4 : ∀ n : Int, x.f0 = n → wantFind n wantL = some (6, 0) → Evp (fun k => spec_l3Ins.j4 k x7 x.f0 (x.f0 == n) cs ms x.f0 x.f1 x.f2) (fun r => r = true ↔ InsOk cs ms a4 l5.length x) := by
    intro n hn hw
    rw [show (x.f0 == n) = true by simpa using hn]
    refine Evp.step (f := fun k => _) (fun k => by rw [spec_l3Ins.j4]) (Evp.yes rfl ?_)
    rw [in_eq]
    simp only [Option.bind_some]
    refine fin2.mono fun r hr => ins_leaf hn hw (hr.trans ?_)
    rw [op6, op0]; omega
  have J5 : ∀ n : Int, x.f0 = n → wantFind n wantL = some (5, 8) → Evp (fun k => spec_l3Ins.j5 k x7 x.f0 (x.f0 == n) cs ms x.f0 x.f1 x.f2) (fun r => r = true ↔ InsOk cs ms a4 l5.length x) := by
    intro n hn hw
    rw [show (x.f0 == n) = true by simpa using hn]
    refine Evp.step (f := fun k => _) (fun k => by rw [spec_l3Ins.j5]) (Evp.yes rfl (Evp.ite (fun h => ?_) (fun h => Evp.pure _ (ins_leaf hn hw ?_))))
    · obtain ⟨hx0, hx1⟩ := h7.1 h
      have := spec_flds hok x.f1.toNat (by omega)
      rw [show ((x.f1.toNat : Nat) : Int) = x.f1 by omega] at this
      refine Evp.bind this fun l hl => ?_
      have hl10 := hl.2
      rw [in_eq, w64 (n := (l.length : Int) - 1) (by omega) (by omega)]
      simp only [Option.bind_some]
      refine Evp.pure _ (ins_leaf hn hw ?_)
      rw [op5, op8, decide_eq_true_iff]
      constructor
      · intro h2; exact ⟨⟨hx0, hx1⟩, h2.1, l, hl.1, by omega⟩
      · rintro ⟨_, h2, l', hl', h3⟩
        rw [← hl.1.fn hl'] at h3
        exact ⟨h2, by omega⟩
    · rw [op5]; exact iff_no fun h2 => h (h7.2 h2.1)
  by_cases e1 : x.f0 = 1
  · simp only [if_pos e1]
    unfold spec_l1Word.f
    rw [in_eq]
    simp only [Option.bind_some]
    refine fin2.mono fun r hr => ins_leaf e1 rfl (hr.trans ?_)
    rw [op1, op0]
  simp only [if_neg e1]
  by_cases e2 : x.f0 = 2
  · simp only [if_pos e2]; exact J0 2 e2 rfl
  simp only [if_neg e2]
  by_cases e5 : x.f0 = 5
  · simp only [if_pos e5]; exact J0 5 e5 rfl
  simp only [if_neg e5]
  by_cases e6 : x.f0 = 6
  · simp only [if_pos e6]; exact J0 6 e6 rfl
  simp only [if_neg e6]
  by_cases e14 : x.f0 = 14
  · simp only [if_pos e14]; exact J0 14 e14 rfl
  simp only [if_neg e14]
  by_cases e22 : x.f0 = 22
  · simp only [if_pos e22]; exact J0 22 e22 rfl
  simp only [if_neg e22]
  by_cases e23 : x.f0 = 23
  · simp only [if_pos e23]; exact J0 23 e23 rfl
  simp only [if_neg e23]
  by_cases e24 : x.f0 = 24
  · exact J0 24 e24 rfl
  rw [show (x.f0 == 24) = false by simpa using e24]
  refine Evp.step (f := fun k => _) (fun k => by rw [spec_l3Ins.j0]) (Evp.no (by decide) ?_)
  by_cases e3 : x.f0 = 3
  · simp only [if_pos e3]; exact J1 3 e3 rfl
  simp only [if_neg e3]
  by_cases e4 : x.f0 = 4
  · exact J1 4 e4 rfl
  rw [show (x.f0 == 4) = false by simpa using e4]
  refine Evp.step (f := fun k => _) (fun k => by rw [spec_l3Ins.j1]) (Evp.no (by decide) ?_)
  by_cases e7 : x.f0 = 7
  · simp only [if_pos e7]
    rw [in_eq]
    simp only [Option.bind_some]
    refine fin2.mono fun r hr => ins_leaf e7 rfl (hr.trans ?_)
    rw [op3, op0]
  simp only [if_neg e7]
  by_cases e8 : x.f0 = 8
  · simp only [if_pos e8]; exact J2 8 e8 rfl
  simp only [if_neg e8]
  by_cases e9 : x.f0 = 9
  · simp only [if_pos e9]; exact J2 9 e9 rfl
  simp only [if_neg e9]
  by_cases e10 : x.f0 = 10
  · simp only [if_pos e10]; exact J2 10 e10 rfl
  simp only [if_neg e10]
  by_cases e11 : x.f0 = 11
  · exact J2 11 e11 rfl
  rw [show (x.f0 == 11) = false by simpa using e11]
  refine Evp.step (f := fun k => _) (fun k => by rw [spec_l3Ins.j2]) (Evp.no (by decide) ?_)
  by_cases e12 : x.f0 = 12
  · simp only [if_pos e12]; exact J3 12 e12 rfl
  simp only [if_neg e12]
  by_cases e19 : x.f0 = 19
  · exact J3 19 e19 rfl
  rw [show (x.f0 == 19) = false by simpa using e19]
  refine Evp.step (f := fun k => _) (fun k => by rw [spec_l3Ins.j3]) (Evp.no (by decide) ?_)
  by_cases e13 : x.f0 = 13
  · simp only [if_pos e13]; exact J4 13 e13 rfl
  simp only [if_neg e13]
  by_cases e15 : x.f0 = 15
  · simp only [if_pos e15]; exact J4 15 e15 rfl
  simp only [if_neg e15]
  by_cases e16 : x.f0 = 16
  · exact J4 16 e16 rfl
  rw [show (x.f0 == 16) = false by simpa using e16]
  refine Evp.step (f := fun k => _) (fun k => by rw [spec_l3Ins.j4]) (Evp.no (by decide) ?_)
  by_cases e17 : x.f0 = 17
  · simp only [if_pos e17]; exact J5 17 e17 rfl
  simp only [if_neg e17]
  by_cases e18 : x.f0 = 18
  · exact J5 18 e18 rfl
  rw [show (x.f0 == 18) = false by simpa using e18]
  refine Evp.step (f := fun k => _) (fun k => by rw [spec_l3Ins.j5]) (Evp.no (by decide) ?_)
  by_cases e20 : x.f0 = 20
  · simp only [if_pos e20]
    rw [in_eq, w64 (n := (ms.length : Int) - 1) (by omega) (by omega)]
    simp only [Option.bind_some]
    refine Evp.ite (fun h => ?_) (fun h => Evp.pure _ (ins_leaf e20 rfl ?_))
    · have h' := of_decide_eq_true h
      refine Evp.ite (fun h2 => Evp.yes h'.1 (Evp.yes (by omega) (Evp.pure _ (ins_leaf e20 rfl ?_)))) (fun h2 => Evp.pure _ (ins_leaf e20 rfl ?_))
      · rw [op7, op0, beq_iff_eq]
        exact ⟨fun h3 => ⟨⟨h'.1, by omega, h3⟩, h2⟩, fun h3 => h3.1.2.2⟩
      · rw [op0]; exact iff_no fun h3 => h2 h3.2
    · rw [op7]; exact iff_no fun h3 => h (decide_eq_true (by omega))
  simp only [if_neg e20]
  by_cases e21 : x.f0 = 21
  · simp only [if_pos e21]
    refine Evp.ite (fun h => ?_) (fun h => Evp.pure _ (ins_leaf e21 rfl ?_))
    · rw [in_eq]
      simp only [Option.bind_some]
      refine Evp.pure _ (ins_leaf e21 rfl ?_)
      rw [op5, op9, decide_eq_true_iff]
      have := h7.1 h
      omega
    · rw [op5]; exact iff_no fun h2 => h (h7.2 h2.1)
  simp only [if_neg e21]
  refine Evp.pure _ (iff_no ?_)
  rintro ⟨p, q, hw, _⟩
  rw [want_none (by omega)] at hw
  cases hw
end Go.Proofs.Ytedodaifpekahaa.Kit

end
section

namespace Go.Proofs.Ytedodaifpekahaa.Kit
open Go Go.RowKit Go.Proofs.YtedodaifpekahaaW.PrintWords Go.Proofs.Ytedodaifpekahaa.P
set_option linter.unusedVariables false
set_option linter.unusedSimpArgs false
def CatchOk (cs : List Cls) (nc : Nat) (c : Cth) : Prop := (0 ≤ c.f0 ∧ c.f0 < (nc : Int)) ∧ (c.f0 < c.f1 ∧ c.f1 ≤ (nc : Int)) ∧ (0 ≤ c.f2 ∧ c.f2 < (nc : Int)) ∧ (0 ≤ c.f3 ∧ c.f3 < (cs.length : Int)) ∧ Up cs c.f3.toNat 1
def CatchesOk (cs : List Cls) (nc : Nat) (l7 : List Cth) : Prop := l7.length ≤ 2 ∧ ∀ j, 0 ≤ j → j < l7.length → CatchOk cs nc (l7.getD j z73)
theorem impl_catches {cs : List Cls} (hok : ClsOk cs) (ms : List Mth) {a0 a1 : Int} {l2 : List Int} {a3 a4 : Int} (l5 : List Ins) (l6 : List Shp_) (l7 : List Cth) :
    Evp (fun k => impl_catchesOk.f k cs ms a0 a1 l2 a3 a4 l5 l6 l7) (fun r => r = true ↔ CatchesOk cs l5.length l7) := by
  unfold impl_catchesOk.f
  refine Evp.ite (fun h => Evp.pure _ (iff_no fun h2 => by have := h2.1; omega)) (fun h => ?_)
  have k0 : ∀ i, i ≤ l7.length → Evp (fun k => impl_catchesOk.l0 k l7 (l7.length : Int) (i : Int) cs ms a0 a1 l2 a3 a4 l5 l6 l7) (fun r => r = true ↔ (∀ j, i ≤ j → j < l7.length → CatchOk cs l5.length (l7.getD j z73)) ∧ True) := by
    refine Evp.for_ ?_ (fun i hi ih => ?_)
    · exact Evp.step (f := fun k => _) (fun k => by rw [impl_catchesOk.l0]) (Evp.no (by omega) (Evp.pure _ (all_end (iff_yes trivial))))
    · generalize hc : l7.getD i z73 = c at ih
      have no1 : ¬ CatchOk cs l5.length c → Evp (fun k => impl_catchesOk.j1 k l7 (l7.length : Int) (i : Int) true cs ms a0 a1 l2 a3 a4 l5 l6 l7 c.f0 c.f1 c.f2 c.f3) (fun r => r = true ↔ (∀ j, i ≤ j → j < l7.length → CatchOk cs l5.length (l7.getD j z73)) ∧ True) := fun hn =>
        Evp.step (f := fun k => _) (fun k => by rw [impl_catchesOk.j1]) (Evp.yes rfl (Evp.pure _ (all_stop (Q := fun j => CatchOk cs l5.length (l7.getD j z73)) hi (by rw [hc]; exact hn))))
      have no2 : ¬ CatchOk cs l5.length c → Evp (fun k => impl_catchesOk.j2 k l7 (l7.length : Int) (i : Int) true cs ms a0 a1 l2 a3 a4 l5 l6 l7 c.f0 c.f1 c.f2 c.f3) (fun r => r = true ↔ (∀ j, i ≤ j → j < l7.length → CatchOk cs l5.length (l7.getD j z73)) ∧ True) := fun hn =>
        Evp.step (f := fun k => _) (fun k => by rw [impl_catchesOk.j2]) (Evp.yes rfl (Evp.pure _ (all_stop (Q := fun j => CatchOk cs l5.length (l7.getD j z73)) hi (by rw [hc]; exact hn))))
      refine Evp.step (f := fun k => _) (fun k => by rw [impl_catchesOk.l0, rdK, hc]) (Evp.yes (by omega) (Evp.yes (by omega) (Evp.yes (by omega) ?_)))
      refine Evp.ite (fun h1 => no1 fun h9 => by have := h9.1; omega) (fun h1 => Evp.ite (fun h2 => no1 fun h9 => by have := h9.1; omega) (fun h2 => Evp.ite (fun h3 => no1 fun h9 => by have := h9.2.2.1; omega) (fun h3 => ?_)))
      by_cases h4 : c.f2 ≥ (l5.length : Int)
      · rw [decide_eq_true h4]
        exact no1 fun h9 => by have := h9.2.2.1; omega
      rw [decide_eq_false h4]
      refine Evp.step (f := fun k => _) (fun k => by rw [impl_catchesOk.j1]) (Evp.no (by decide) (Evp.ite (fun h5 => no2 fun h9 => by have := h9.2.1; omega) (fun h5 => ?_)))
      by_cases h6 : c.f1 > (l5.length : Int)
      · rw [decide_eq_true h6]
        exact no2 fun h9 => by have := h9.2.1; omega
      rw [decide_eq_false h6]
      refine Evp.step (f := fun k => _) (fun k => by rw [impl_catchesOk.j2]) (Evp.no (by decide) ?_)
      obtain ⟨x, hx, hx2⟩ := impl_isClass_eq cs c.f3
      simp only [hx, Option.bind_some]
      refine Evp.ite (fun h7 => ?_) (fun h7 => Evp.pure _ (all_stop (Q := fun j => CatchOk cs l5.length (l7.getD j z73)) hi (by rw [hc]; exact fun h9 => h7 (hx2.2 h9.2.2.2.1))))
      have h8 := hx2.1 h7
      have hu := impl_up hok 1 c.f3.toNat (by omega)
      rw [show ((c.f3.toNat : Nat) : Int) = c.f3 by omega] at hu
      refine Evp.bind hu fun u hu => Evp.ite (fun h9 => ?_) (fun h9 => Evp.pure _ (all_stop (Q := fun j => CatchOk cs l5.length (l7.getD j z73)) hi (by rw [hc]; exact fun h10 => h9 (hu.2 h10.2.2.2.2))))
      rw [w64' (n := l7.length) hi (by omega)]
      exact ih.mono fun r hr => all_step (Q := fun j => CatchOk cs l5.length (l7.getD j z73)) (by rw [hc]; exact ⟨by omega, by omega, by omega, h8, hu.1 h9⟩) hr
  exact (k0 0 (Nat.zero_le _)).mono fun r hr => hr.trans ⟨fun h2 => ⟨by omega, h2.1⟩, fun h2 => ⟨h2.2, trivial⟩⟩
theorem spec_catch {cs : List Cls} (hok : ClsOk cs) (ms : List Mth) {a0 a1 : Int} {l2 : List Int} {a3 a4 : Int} (l5 : List Ins) (hn5 : l5.length ≤ 1048576) (l6 : List Shp_) (l7 : List Cth) (c : Cth) :
    Evp (fun k => spec_l3Catch.f k cs ms a0 a1 l2 a3 a4 l5 l6 l7 c.f0 c.f1 c.f2 c.f3) (fun r => r = true ↔ CatchOk cs l5.length c) := by
  have hlo := hok.lo
  have hhi := hok.hi
  unfold spec_l3Catch.f
  rw [in_eq, w64 (n := (l5.length : Int) - 1) (by omega) (by omega), w64 (n := (cs.length : Int) - 1) (by omega) (by omega)]
  simp only [Option.bind_some]
  refine Evp.ite (fun h1 => ?_) (fun h1 => Evp.pure _ (iff_no fun h9 => h1 (decide_eq_true (by have := h9.1; omega))))
  have h1' := of_decide_eq_true h1
  rw [in_eq, w64 (n := c.f0 + 1) (by omega) (by omega)]
  simp only [Option.bind_some]
  refine Evp.ite (fun h2 => ?_) (fun h2 => Evp.pure _ (iff_no fun h9 => h2 (decide_eq_true (by have := h9.2.1; omega))))
  have h2' := of_decide_eq_true h2
  rw [in_eq]
  simp only [Option.bind_some]
  refine Evp.ite (fun h3 => ?_) (fun h3 => Evp.pure _ (iff_no fun h9 => h3 (decide_eq_true (by have := h9.2.2.1; omega))))
  have h3' := of_decide_eq_true h3
  rw [in_eq]
  simp only [Option.bind_some]
  refine Evp.ite (fun h4 => ?_) (fun h4 => Evp.pure _ (iff_no fun h9 => h4 (decide_eq_true (by have := h9.2.2.2.1; omega))))
  have h4' := of_decide_eq_true h4
  have hu := spec_up hok 1 c.f3.toNat (by omega)
  rw [show ((c.f3.toNat : Nat) : Int) = c.f3 by omega] at hu
  exact Evp.bind hu fun u hu => Evp.pure _ (hu.trans ⟨fun h5 => ⟨by omega, by omega, by omega, by omega, h5⟩, fun h5 => h5.2.2.2.2⟩)
def MethOk (cs : List Cls) (ms : List Mth) (m : Mth) : Prop := HeadOk cs.length m.f0 m.f1 m.f2 m.f3 m.f4 ∧ CodeOk cs ms m.f4 m.f5 m.f6 ∧ CatchesOk cs m.f5.length m.f7
theorem spec_method {cs : List Cls} (hs : SmallC cs) (hok : ClsOk cs) (ms : List Mth) (hm : ms.length ≤ 1048576) (m : Mth) (h2 : m.f2.length ≤ 1048576) (h5 : m.f5.length ≤ 1048576) (h6 : m.f6.length ≤ 1048576) (h7 : m.f7.length ≤ 1048576) (h6s : ∀ j, j < m.f6.length → SmallS (m.f6.getD j z70)) :
    Evp (fun k => spec_l3Method.f k cs ms m.f0 m.f1 m.f2 m.f3 m.f4 m.f5 m.f6 m.f7) (fun r => r = true ↔ MethOk cs ms m) := by
  obtain ⟨a0, a1, l2, a3, a4, l5, l6, l7⟩ := m
  dsimp only at *
  have jt : ¬ MethOk cs ms ⟨a0, a1, l2, a3, a4, l5, l6, l7⟩ → Evp (fun k => spec_l3Method.j0 k true cs ms a0 a1 l2 a3 a4 l5 l6 l7) (fun r => r = true ↔ MethOk cs ms ⟨a0, a1, l2, a3, a4, l5, l6, l7⟩) := fun h =>
    Evp.step (f := fun k => _) (fun k => by rw [spec_l3Method.j0]) (Evp.yes rfl (Evp.pure _ (iff_no h)))
  unfold spec_l3Method.f
  refine Evp.bind (spec_head hs ms l5 l6 l7 h2) fun b hb => Evp.ite (fun hh => ?_) (fun hh => jt fun h => hh (hb.2 h.1))
  have hhd := hb.1 hh
  have h4a : a4 ≤ 3 := hhd.2.2.2.2.1
  have h4b : 0 ≤ a4 := by
    have := hhd.2.2.2.2.2
    unfold self_ at this
    split at this <;> omega
  rw [in_eq]
  simp only [Option.bind_some]
  refine Evp.ite (fun h1 => ?_) (fun h1 => jt fun h => h1 (decide_eq_true (by have := h.2.1.1; dsimp only at this; omega)))
  have h1' := of_decide_eq_true h1
  refine Evp.ite (fun he => ?_) (fun he => jt fun h => he (by have := h.2.1.1.2.2; dsimp only at this; omega))
  by_cases h3 : (l7.length : Int) > 2
  · rw [decide_eq_true h3]
    exact jt fun h => by have := h.2.2.1; dsimp only at this; omega
  rw [decide_eq_false h3]
  refine Evp.step (f := fun k => _) (fun k => by rw [spec_l3Method.j0]) (Evp.no (by decide) ?_)
  have k1 : ∀ i, i ≤ l7.length → Evp (fun k => spec_l3Method.l1 k (i : Int) cs ms a0 a1 l2 a3 a4 l5 l6 l7) (fun r => r = true ↔ (∀ j, i ≤ j → j < l7.length → CatchOk cs l5.length (l7.getD j z73)) ∧ True) := by
    refine Evp.for_ ?_ (fun i hi ih => ?_)
    · exact Evp.step (f := fun k => _) (fun k => by rw [spec_l3Method.l1]) (Evp.no (by omega) (Evp.pure _ (all_end (iff_yes trivial))))
    · refine Evp.step (f := fun k => _) (fun k => by rw [spec_l3Method.l1, rdK]) (Evp.yes (by omega) (Evp.yes (by omega) ?_))
      refine Evp.bind (spec_catch hok ms l5 h5 l6 l7 _) fun c hc => Evp.ite (fun h8 => ?_) (fun h8 => Evp.pure _ (all_stop (Q := fun j => CatchOk cs l5.length (l7.getD j z73)) hi fun h9 => h8 (hc.2 h9)))
      rw [w64' (n := l7.length) hi (by omega)]
      exact ih.mono fun r hr => all_step (Q := fun j => CatchOk cs l5.length (l7.getD j z73)) (hc.1 h8) hr
  have k0 : ∀ i, i ≤ l5.length → Evp (fun k => spec_l3Method.l0 k (i : Int) cs ms a0 a1 l2 a3 a4 l5 l6 l7) (fun r => r = true ↔ (∀ j, i ≤ j → j < l5.length → InsOk cs ms a4 l5.length (l5.getD j z67) ∧ ShOk_ cs a4 (l6.getD j z70)) ∧ ((∀ j, 0 ≤ j → j < l7.length → CatchOk cs l5.length (l7.getD j z73)) ∧ True)) := by
    refine Evp.for_ ?_ (fun i hi ih => ?_)
    · refine Evp.step (f := fun k => _) (fun k => by rw [spec_l3Method.l0]) (Evp.no (by omega) ?_)
      exact (k1 0 (Nat.zero_le _)).mono fun r hr => all_end hr
    · have hss := h6s i (by omega)
      refine Evp.step (f := fun k => _) (fun k => by rw [spec_l3Method.l0, rdX, rdS]) (Evp.yes (by omega) (Evp.yes (by omega) ?_))
      refine Evp.bind (spec_ins hs hok ms hm h4b h4a l5 h5 l6 l7 _) fun c hc => Evp.ite (fun h8 => ?_) (fun h8 => Evp.pure _ (all_stop (Q := fun j => InsOk cs ms a4 l5.length (l5.getD j z67) ∧ ShOk_ cs a4 (l6.getD j z70)) hi fun h9 => h8 (hc.2 h9.1)))
      refine Evp.yes (by omega) (Evp.bind (spec_shapeOk hs a4 _ hss.l1 hss.l2) fun d hd => Evp.ite (fun h9 => ?_) (fun h9 => Evp.pure _ (all_stop (Q := fun j => InsOk cs ms a4 l5.length (l5.getD j z67) ∧ ShOk_ cs a4 (l6.getD j z70)) hi fun h10 => h9 (hd.2 ⟨hok, h10.2⟩))))
      rw [w64' (n := l5.length) hi (by omega)]
      exact ih.mono fun r hr => all_step (Q := fun j => InsOk cs ms a4 l5.length (l5.getD j z67) ∧ ShOk_ cs a4 (l6.getD j z70)) ⟨hc.1 h8, (hd.1 h9).2⟩ hr
  refine (k0 0 (Nat.zero_le _)).mono fun r hr => hr.trans ?_
  constructor
  · intro h
    refine ⟨hhd, ⟨⟨by dsimp only; omega, by dsimp only; omega, by dsimp only; omega⟩, fun j hj hj2 => (h.1 j hj hj2).1, fun j hj hj2 => (h.1 j hj (by dsimp only at hj2; omega)).2⟩, ⟨by dsimp only; omega, h.2.1⟩⟩
  · intro h
    exact ⟨fun j hj hj2 => ⟨h.2.1.2.1 j hj hj2, h.2.1.2.2 j hj (by dsimp only; omega)⟩, h.2.2.2, trivial⟩
end Go.Proofs.Ytedodaifpekahaa.Kit

end
section

namespace Go.Proofs.Ytedodaifpekahaa.Kit
open Go Go.RowKit Go.Proofs.YtedodaifpekahaaW.PrintWords Go.Proofs.Ytedodaifpekahaa.P
set_option linter.unusedVariables false
set_option linter.unusedSimpArgs false
abbrev mth (ms : List Mth) (i : Nat) : Mth := ms.getD i z46
theorem rdM' {xs : List Mth} (i : Nat) : rd_T46 xs (i : Int) = mth xs i := rfl
theorem list_eq_iff {l m : List Int} (h : l.length = m.length) : (∀ j, 0 ≤ j → j < l.length → l.getD j 0 = m.getD j 0) ↔ l = m := by
  constructor
  · intro h2
    refine List.ext_getElem h fun i hi hi2 => ?_
    have := h2 i (Nat.zero_le _) hi
    rwa [getD_at hi, getD_at hi2] at this
  · intro h2 j _ _
    rw [h2]
theorem all_cons {Q : Nat → Prop} {i n : Nat} (hi : i < n) : (∀ j, i ≤ j → j < n → Q j) ↔ Q i ∧ (∀ j, i + 1 ≤ j → j < n → Q j) := by
  constructor
  · intro h; exact ⟨h i (Nat.le_refl _) hi, fun j hj hj2 => h j (by omega) hj2⟩
  · intro h j hj hj2
    rcases Nat.eq_or_lt_of_le hj with rfl | h3
    · exact h.1
    · exact h.2 j h3 hj2
theorem equal_evp {l m : List Int} (hl : l.length ≤ 1048576) : Evp (fun k => slices_Equal_int_int.f k l m) (fun r => r = true ↔ l = m) := by
  unfold slices_Equal_int_int.f
  refine Evp.ite (fun h => ?_) (fun h => Evp.pure _ (iff_no fun h2 => h (by rw [h2])))
  have k0 : ∀ i, i ≤ l.length → Evp (fun k => slices_Equal_int_int.l0 k l m (l.length : Int) (i : Int)) (fun r => r = true ↔ (∀ j, i ≤ j → j < l.length → l.getD j 0 = m.getD j 0) ∧ True) := by
    refine Evp.for_ ?_ (fun i hi ih => ?_)
    · exact Evp.step (f := fun k => _) (fun k => by rw [slices_Equal_int_int.l0]) (Evp.no (by omega) (Evp.pure _ (all_end (iff_yes trivial))))
    · refine Evp.step (f := fun k => _) (fun k => by rw [slices_Equal_int_int.l0, rdN, rdN]) (Evp.yes (by omega) (Evp.yes (by omega) (Evp.yes (by omega) (Evp.yes (by omega) (Evp.ite (fun h2 => ?_) (fun h2 => Evp.pure _ (all_stop hi h2)))))))
      rw [w64' (n := l.length) hi (by omega)]
      exact ih.mono fun r hr => all_step (Q := fun j => l.getD j 0 = m.getD j 0) h2 hr
  refine (k0 0 (Nat.zero_le _)).mono fun r hr => hr.trans ?_
  rw [list_eq_iff (by omega)]
  exact ⟨fun h2 => h2.1, fun h2 => ⟨h2, trivial⟩⟩
theorem same_evp {a b : Mth} (ha : a.f2.length ≤ 1048576) : Evp (fun k => spec_l3Same.f k a.f0 a.f1 a.f2 a.f3 a.f4 a.f5 a.f6 a.f7 b.f0 b.f1 b.f2 b.f3 b.f4 b.f5 b.f6 b.f7) (fun r => r = true ↔ a.f3 = b.f3 ∧ a.f2 = b.f2) := by
  unfold spec_l3Same.f
  have jt : ¬ (a.f3 = b.f3 ∧ a.f2 = b.f2) → Evp (fun k => spec_l3Same.j0 k true a.f0 a.f1 a.f2 a.f3 a.f4 a.f5 a.f6 a.f7 b.f0 b.f1 b.f2 b.f3 b.f4 b.f5 b.f6 b.f7) (fun r => r = true ↔ a.f3 = b.f3 ∧ a.f2 = b.f2) := fun h =>
    Evp.step (f := fun k => _) (fun k => by rw [spec_l3Same.j0]) (Evp.yes rfl (Evp.pure _ (iff_no h)))
  refine Evp.ite (fun h => ?_) (fun h => jt fun h2 => h h2.1)
  by_cases hl : a.f2.length = b.f2.length
  · rw [show ((a.f2.length : Int) != (b.f2.length : Int)) = false by simp; omega]
    refine Evp.step (f := fun k => _) (fun k => by rw [spec_l3Same.j0]) (Evp.no (by decide) ?_)
    have k0 : ∀ i, i ≤ a.f2.length → Evp (fun k => spec_l3Same.l0 k (i : Int) a.f0 a.f1 a.f2 a.f3 a.f4 a.f5 a.f6 a.f7 b.f0 b.f1 b.f2 b.f3 b.f4 b.f5 b.f6 b.f7) (fun r => r = true ↔ (∀ j, i ≤ j → j < a.f2.length → a.f2.getD j 0 = b.f2.getD j 0) ∧ True) := by
      refine Evp.for_ ?_ (fun i hi ih => ?_)
      · exact Evp.step (f := fun k => _) (fun k => by rw [spec_l3Same.l0]) (Evp.no (by omega) (Evp.pure _ (all_end (iff_yes trivial))))
      · refine Evp.step (f := fun k => _) (fun k => by rw [spec_l3Same.l0, rdN, rdN]) (Evp.yes (by omega) (Evp.yes (by omega) (Evp.yes (by omega) (Evp.ite (fun h2 => ?_) (fun h2 => Evp.pure _ (all_stop hi h2))))))
        rw [w64' (n := a.f2.length) hi (by omega)]
        exact ih.mono fun r hr => all_step (Q := fun j => a.f2.getD j 0 = b.f2.getD j 0) h2 hr
    refine (k0 0 (Nat.zero_le _)).mono fun r hr => hr.trans ?_
    rw [list_eq_iff hl]
    exact ⟨fun h2 => ⟨h, h2.1⟩, fun h2 => ⟨h2.2, trivial⟩⟩
  · rw [show ((a.f2.length : Int) != (b.f2.length : Int)) = true by simp; omega]
    exact jt fun h2 => hl (by rw [h2.2])
def Pair (cs : List Cls) (a b : Mth) : Prop := 0 ≤ a.f0 → 0 ≤ b.f0 → a.f1 = b.f1 → Up cs a.f0.toNat b.f0.toNat → a.f0 ≠ b.f0 ∧ a.f3 = b.f3 ∧ a.f2 = b.f2
def Row (cs : List Cls) (ms : List Mth) (i : Nat) : Prop := ∀ j, 0 ≤ j → j < ms.length → i ≠ j → Pair cs (mth ms i) (mth ms j)
def Agree (cs : List Cls) (ms : List Mth) : Prop := ∀ i, 0 ≤ i → i < ms.length → Row cs ms i
def InR (cs : List Cls) (ms : List Mth) : Prop := ∀ i, i < ms.length → (0 ≤ (mth ms i).f0 → (mth ms i).f0 < (cs.length : Int)) ∧ (mth ms i).f2.length ≤ 1048576
theorem impl_agree' {cs : List Cls} (hok : ClsOk cs) {ms : List Mth} (hm : ms.length ≤ 1048576) (hr : InR cs ms) : Evp (fun k => impl_agree.f k cs ms) (fun r => r = true ↔ Agree cs ms) := by
  unfold impl_agree.f
  have k0 : ∀ i, i ≤ ms.length → Evp (fun k => impl_agree.l0 k ms (ms.length : Int) (i : Int) cs ms) (fun r => r = true ↔ (∀ j, i ≤ j → j < ms.length → Row cs ms j) ∧ True) := by
    refine Evp.for_ ?_ (fun i hi ih => ?_)
    · exact Evp.step (f := fun k => _) (fun k => by rw [impl_agree.l0]) (Evp.no (by omega) (Evp.pure _ (all_end (iff_yes trivial))))
    · refine Evp.step (f := fun k => _) (fun k => by rw [impl_agree.l0, rdM']) (Evp.yes (by omega) (Evp.yes (by omega) (Evp.yes (by omega) ?_)))
      have hri := hr i hi
      have k1 : ∀ j, j ≤ ms.length → Evp (fun k => impl_agree.l1 k (i : Int) ms (ms.length : Int) (i : Int) ms (ms.length : Int) (j : Int) cs ms (mth ms i).f0 (mth ms i).f1 (mth ms i).f2 (mth ms i).f3 (mth ms i).f4 (mth ms i).f5 (mth ms i).f6 (mth ms i).f7) (fun r => r = true ↔ (∀ j', j ≤ j' → j' < ms.length → (i ≠ j' → Pair cs (mth ms i) (mth ms j'))) ∧ (∀ j', i + 1 ≤ j' → j' < ms.length → Row cs ms j')) := by
        refine Evp.for_ ?_ (fun j hj ihj => ?_)
        · refine Evp.step (f := fun k => _) (fun k => by rw [impl_agree.l1]) (Evp.no (by omega) ?_)
          rw [w64' (n := ms.length) hi (by omega)]
          exact ih.mono fun r hr => all_end (hr.trans ⟨fun h => h.1, fun h => ⟨h, trivial⟩⟩)
        · have hrj := hr j hj
          refine Evp.step (f := fun k => _) (fun k => by rw [impl_agree.l1, rdM']) (Evp.yes (by omega) (Evp.yes (by omega) (Evp.yes (by omega) ?_)))
          show Evp (fun k => if (i : Int) = (j : Int) then impl_agree.j2 k (i : Int) ms (ms.length : Int) (i : Int) ms (ms.length : Int) (j : Int) true cs ms (mth ms i).f0 (mth ms i).f1 (mth ms i).f2 (mth ms i).f3 (mth ms i).f4 (mth ms i).f5 (mth ms i).f6 (mth ms i).f7 (mth ms j).f0 (mth ms j).f1 (mth ms j).f2 (mth ms j).f3 (mth ms j).f4 (mth ms j).f5 (mth ms j).f6 (mth ms j).f7 else _) _
          have go : (i ≠ j → Pair cs (mth ms i) (mth ms j)) → Evp (fun k => impl_agree.l1 k (i : Int) ms (ms.length : Int) (i : Int) ms (ms.length : Int) (wrap64 ((j : Int) + 1)) cs ms (mth ms i).f0 (mth ms i).f1 (mth ms i).f2 (mth ms i).f3 (mth ms i).f4 (mth ms i).f5 (mth ms i).f6 (mth ms i).f7) (fun r => r = true ↔ (∀ j', j ≤ j' → j' < ms.length → (i ≠ j' → Pair cs (mth ms i) (mth ms j'))) ∧ (∀ j', i + 1 ≤ j' → j' < ms.length → Row cs ms j')) := by
            intro hp
            rw [w64' (n := ms.length) hj (by omega)]
            exact ihj.mono fun r hr => all_step (Q := fun j' => i ≠ j' → Pair cs (mth ms i) (mth ms j')) hp hr
          have skip : (i ≠ j → Pair cs (mth ms i) (mth ms j)) → Evp (fun k => impl_agree.j2 k (i : Int) ms (ms.length : Int) (i : Int) ms (ms.length : Int) (j : Int) true cs ms (mth ms i).f0 (mth ms i).f1 (mth ms i).f2 (mth ms i).f3 (mth ms i).f4 (mth ms i).f5 (mth ms i).f6 (mth ms i).f7 (mth ms j).f0 (mth ms j).f1 (mth ms j).f2 (mth ms j).f3 (mth ms j).f4 (mth ms j).f5 (mth ms j).f6 (mth ms j).f7) (fun r => r = true ↔ (∀ j', j ≤ j' → j' < ms.length → (i ≠ j' → Pair cs (mth ms i) (mth ms j'))) ∧ (∀ j', i + 1 ≤ j' → j' < ms.length → Row cs ms j')) := fun hp =>
            Evp.step (f := fun k => _) (fun k => by rw [impl_agree.j2]) (Evp.yes rfl (go hp))
          have stop : i ≠ j → ¬ Pair cs (mth ms i) (mth ms j) → Evp (fun k => some false) (fun r => r = true ↔ (∀ j', j ≤ j' → j' < ms.length → (i ≠ j' → Pair cs (mth ms i) (mth ms j'))) ∧ (∀ j', i + 1 ≤ j' → j' < ms.length → Row cs ms j')) := fun hne hp =>
            Evp.pure _ (all_stop (Q := fun j' => i ≠ j' → Pair cs (mth ms i) (mth ms j')) hj fun h => hp (h hne))
          refine Evp.ite (fun h1 => skip fun h => absurd (by omega) h) (fun h1 => Evp.ite (fun h2 => skip fun _ h3 => absurd h3 (by omega)) (fun h2 => Evp.ite (fun h3 => skip fun _ _ h4 => absurd h4 (by omega)) (fun h3 => ?_)))
          by_cases h4 : (mth ms i).f1 = (mth ms j).f1
          · rw [show ((mth ms i).f1 != (mth ms j).f1) = false by simpa using h4]
            refine Evp.step (f := fun k => _) (fun k => by rw [impl_agree.j2]) (Evp.no (by decide) ?_)
            have e1 : (((mth ms i).f0.toNat : Nat) : Int) = (mth ms i).f0 := by omega
            have e2 : (((mth ms j).f0.toNat : Nat) : Int) = (mth ms j).f0 := by omega
            have hij : i ≠ j := by omega
            refine Evp.ite (fun h5 => stop hij fun h => (h (by omega) (by omega) h4 (by rw [h5]; exact .refl _)).1 h5) (fun h5 => ?_)
            have hu := impl_up hok (mth ms j).f0.toNat (mth ms i).f0.toNat (by have := hri.1 (by omega); omega)
            rw [e1, e2] at hu
            refine Evp.bind hu fun u hu => Evp.ite (fun h6 => ?_) (fun h6 => go fun _ _ _ _ h7 => absurd (hu.2 h7) h6)
            refine Evp.ite (fun h7 => ?_) (fun h7 => stop hij fun h => h7 (h (by omega) (by omega) h4 (hu.1 h6)).2.1)
            refine Evp.bind (equal_evp hri.2) fun e he => Evp.ite (fun h8 => go fun _ _ _ _ _ => ⟨h5, h7, he.1 h8⟩) (fun h8 => stop hij fun h => h8 (he.2 (h (by omega) (by omega) h4 (hu.1 h6)).2.2))
          · rw [show ((mth ms i).f1 != (mth ms j).f1) = true by simpa using h4]
            exact skip fun _ _ _ h5 => absurd h5 h4
      refine (k1 0 (Nat.zero_le _)).mono fun r hr => hr.trans ?_
      rw [all_cons (Q := fun j => Row cs ms j) hi]
      exact ⟨fun h => ⟨h, trivial⟩, fun h => h.1⟩
  exact (k0 0 (Nat.zero_le _)).mono fun r hr => hr.trans ⟨fun h => h.1, fun h => ⟨h, trivial⟩⟩
theorem spec_apart {cs : List Cls} (hok : ClsOk cs) {ms : List Mth} (hm : ms.length ≤ 1048576) (hr : InR cs ms) : Evp (fun k => spec_l3Apart.f k cs ms) (fun r => r = true ↔ Agree cs ms) := by
  unfold spec_l3Apart.f
  have k0 : ∀ i, i ≤ ms.length → Evp (fun k => spec_l3Apart.l0 k (i : Int) cs ms) (fun r => r = true ↔ (∀ j, i ≤ j → j < ms.length → Row cs ms j) ∧ True) := by
    refine Evp.for_ ?_ (fun i hi ih => ?_)
    · exact Evp.step (f := fun k => _) (fun k => by rw [spec_l3Apart.l0]) (Evp.no (by omega) (Evp.pure _ (all_end (iff_yes trivial))))
    · refine Evp.step (f := fun k => _) (fun k => by rw [spec_l3Apart.l0]) (Evp.yes (by omega) ?_)
      have hri := hr i hi
      have k1 : ∀ j, j ≤ ms.length → Evp (fun k => spec_l3Apart.l1 k (i : Int) (j : Int) cs ms) (fun r => r = true ↔ (∀ j', j ≤ j' → j' < ms.length → (i ≠ j' → Pair cs (mth ms i) (mth ms j'))) ∧ (∀ j', i + 1 ≤ j' → j' < ms.length → Row cs ms j')) := by
        refine Evp.for_ ?_ (fun j hj ihj => ?_)
        · refine Evp.step (f := fun k => _) (fun k => by rw [spec_l3Apart.l1]) (Evp.no (by omega) ?_)
          rw [w64' (n := ms.length) hi (by omega)]
          exact ih.mono fun r hr => all_end (hr.trans ⟨fun h => h.1, fun h => ⟨h, trivial⟩⟩)
        · have hrj := hr j hj
          refine Evp.step (f := fun k => _) (fun k => by rw [spec_l3Apart.l1, rdM', rdM', w64' (n := ms.length) hj (by omega)]) (Evp.yes (by omega) (Evp.yes (by omega) (Evp.yes (by omega) (Evp.yes (by omega) ?_))))
          have go : (i ≠ j → Pair cs (mth ms i) (mth ms j)) → Evp (fun k => spec_l3Apart.l1 k (i : Int) ((j + 1 : Nat) : Int) cs ms) (fun r => r = true ↔ (∀ j', j ≤ j' → j' < ms.length → (i ≠ j' → Pair cs (mth ms i) (mth ms j'))) ∧ (∀ j', i + 1 ≤ j' → j' < ms.length → Row cs ms j')) := by
            intro hp
            exact ihj.mono fun r hr => all_step (Q := fun j' => i ≠ j' → Pair cs (mth ms i) (mth ms j')) hp hr
          have stop : i ≠ j → ¬ Pair cs (mth ms i) (mth ms j) → Evp (fun k => some false) (fun r => r = true ↔ (∀ j', j ≤ j' → j' < ms.length → (i ≠ j' → Pair cs (mth ms i) (mth ms j'))) ∧ (∀ j', i + 1 ≤ j' → j' < ms.length → Row cs ms j')) := fun hne hp =>
            Evp.pure _ (all_stop (Q := fun j' => i ≠ j' → Pair cs (mth ms i) (mth ms j')) hj fun h => hp (h hne))
          refine Evp.ite (fun h1 => go fun h => absurd (by omega) h) (fun h1 => Evp.ite (fun h2 => Evp.ite (fun h3 => Evp.ite (fun h4 => ?_) (fun h4 => go fun _ _ _ h5 => absurd h5 h4)) (fun h3 => go fun _ _ h4 => absurd h4 h3)) (fun h2 => go fun _ h3 => absurd h3 h2))
          have hij : i ≠ j := by omega
          have e1 : (((mth ms i).f0.toNat : Nat) : Int) = (mth ms i).f0 := by omega
          have e2 : (((mth ms j).f0.toNat : Nat) : Int) = (mth ms j).f0 := by omega
          have hu := spec_up hok (mth ms j).f0.toNat (mth ms i).f0.toNat (by have := hri.1 h2; omega)
          rw [e1, e2] at hu
          refine Evp.bind hu fun u hu => Evp.ite (fun h6 => Evp.ite (fun h5 => stop hij fun h => (h h2 h3 h4 (hu.1 h6)).1 h5) (fun h5 => ?_)) (fun h6 => go fun _ _ _ _ h7 => absurd (hu.2 h7) h6)
          refine Evp.bind (same_evp (a := mth ms i) (b := mth ms j) hri.2) fun e he => Evp.ite (fun h8 => go fun _ _ _ _ _ => ⟨h5, he.1 h8⟩) (fun h8 => stop hij fun h => h8 (he.2 (h h2 h3 h4 (hu.1 h6)).2))
      refine (k1 0 (Nat.zero_le _)).mono fun r hr => hr.trans ?_
      rw [all_cons (Q := fun j => Row cs ms j) hi]
      exact ⟨fun h => ⟨h, trivial⟩, fun h => h.1⟩
  exact (k0 0 (Nat.zero_le _)).mono fun r hr => hr.trans ⟨fun h => h.1, fun h => ⟨h, trivial⟩⟩
end Go.Proofs.Ytedodaifpekahaa.Kit

end
section

namespace Go.Proofs.Ytedodaifpekahaa.Kit
open Go Go.RowKit Go.Proofs.YtedodaifpekahaaW.PrintWords Go.Proofs.Ytedodaifpekahaa.P
set_option linter.unusedVariables false
set_option linter.unusedSimpArgs false
structure SmallM (m : Mth) : Prop where
  a3 : -9223372036854775808 ≤ m.f3 ∧ m.f3 ≤ 9223372036854775807
  l2 : m.f2.length ≤ 1048576
  i2 : I64 m.f2
  l5 : m.f5.length ≤ 1048576
  l6 : m.f6.length ≤ 1048576
  l7 : m.f7.length ≤ 1048576
  s6 : ∀ j, j < m.f6.length → SmallS (m.f6.getD j z70)
structure SmallU (cs : List Cls) (ms : List Mth) : Prop where
  c : SmallC cs
  m : ms.length ≤ 1048576
  e : ∀ i, i < ms.length → SmallM (mth ms i)
def FirstOk (m : Mth) : Prop := m.f0 = -1 ∧ m.f2.length = 0 ∧ m.f3 = 1
def UnitOk_ (cs : List Cls) (ms : List Mth) : Prop := ClsOk cs ∧ (1 ≤ ms.length ∧ ms.length ≤ 4) ∧ FirstOk (mth ms 0) ∧ (∀ i, 0 ≤ i → i < ms.length → MethOk cs ms (mth ms i)) ∧ Agree cs ms
theorem inR_of {cs : List Cls} {ms : List Mth} (hu : SmallU cs ms) (h : ∀ i, i < ms.length → MethOk cs ms (mth ms i)) : InR cs ms := fun i hi => ⟨fun h0 => by
  rcases (h i hi).1.1 with h1 | h1 <;> omega, (hu.e i hi).l2⟩
theorem impl_unitOk {cs : List Cls} {ms : List Mth} (hu : SmallU cs ms) : Evp (fun k => impl_UnitOk.f k cs ms) (fun r => r = true ↔ UnitOk_ cs ms) := by
  have hs := hu.c
  have hm := hu.m
  have jt0 : ¬ UnitOk_ cs ms → Evp (fun k => impl_UnitOk.j0 k true cs ms) (fun r => r = true ↔ UnitOk_ cs ms) := fun h =>
    Evp.step (f := fun k => _) (fun k => by rw [impl_UnitOk.j0]) (Evp.yes rfl (Evp.pure _ (iff_no h)))
  have jt1 : ¬ UnitOk_ cs ms → Evp (fun k => impl_UnitOk.j1 k true cs ms) (fun r => r = true ↔ UnitOk_ cs ms) := fun h =>
    Evp.step (f := fun k => _) (fun k => by rw [impl_UnitOk.j1]) (Evp.yes rfl (Evp.pure _ (iff_no h)))
  unfold impl_UnitOk.f
  refine Evp.bind (impl_classesOk hs) fun c hc => Evp.ite (fun h => ?_) (fun h => jt0 fun h2 => h (hc.2 h2.1))
  have hok := hc.1 h
  refine Evp.ite (fun h1 => jt0 fun h2 => by have := h2.2.1; omega) (fun h1 => ?_)
  by_cases h2 : (ms.length : Int) > 4
  · rw [decide_eq_true h2]
    exact jt0 fun h3 => by have := h3.2.1; omega
  rw [decide_eq_false h2]
  have e0 : rd_T46 ms 0 = mth ms 0 := rfl
  refine Evp.step (f := fun k => _) (fun k => by rw [impl_UnitOk.j0, e0]) (Evp.no (by decide) (Evp.yes (by omega) (Evp.ite (fun h3 => Evp.ite (fun h4 => ?_) (fun h4 => jt1 fun h5 => h4 (by have := h5.2.2.1.2.1; omega))) (fun h3 => jt1 fun h5 => h3 h5.2.2.1.1))))
  by_cases h5 : (mth ms 0).f3 = 1
  · rw [show ((mth ms 0).f3 != 1) = false by simpa using h5]
    refine Evp.step (f := fun k => _) (fun k => by rw [impl_UnitOk.j1]) (Evp.no (by decide) ?_)
    have k0 : ∀ d i : Nat, i + d = ms.length → (∀ j, j < i → MethOk cs ms (mth ms j)) → Evp (fun k => impl_UnitOk.l0 k ms (ms.length : Int) (i : Int) cs ms) (fun r => r = true ↔ (∀ j, i ≤ j → j < ms.length → MethOk cs ms (mth ms j)) ∧ Agree cs ms) := by
      intro d
      induction d with
      | zero =>
        intro i hi hall
        refine Evp.step (f := fun k => _) (fun k => by rw [impl_UnitOk.l0]) (Evp.no (by omega) ?_)
        refine Evp.bind (impl_agree' hok hm (inR_of hu fun j hj => hall j (by omega))) fun a ha => Evp.pure _ ?_
        exact ha.trans ⟨fun h => ⟨fun j hj hj2 => absurd hj2 (by omega), h⟩, fun h => h.2⟩
      | succ d ih =>
        intro i hi hall
        have hil : i < ms.length := by omega
        have hsm := hu.e i hil
        refine Evp.step (f := fun k => _) (fun k => by rw [impl_UnitOk.l0, rdM']) (Evp.yes (by omega) (Evp.yes (by omega) (Evp.yes (by omega) ?_)))
        refine Evp.bind (impl_head hs ms (mth ms i).f5 (mth ms i).f6 (mth ms i).f7 hsm.a3.1 hsm.a3.2 hsm.l2 hsm.i2) fun a ha => Evp.ite (fun h6 => ?_) (fun h6 => Evp.pure _ (all_stop (Q := fun j => MethOk cs ms (mth ms j)) hil fun h9 => h6 (ha.2 h9.1)))
        refine Evp.bind (impl_code hs hok ms (mth ms i).f5 (mth ms i).f6 (mth ms i).f7 0 hsm.s6 hsm.l5 hsm.l6) fun b hb => Evp.ite (fun h7 => ?_) (fun h7 => Evp.pure _ (all_stop (Q := fun j => MethOk cs ms (mth ms j)) hil fun h9 => h7 (hb.2 h9.2.1)))
        refine Evp.bind (impl_catches hok ms (mth ms i).f5 (mth ms i).f6 (mth ms i).f7) fun e he => Evp.ite (fun h8 => ?_) (fun h8 => Evp.pure _ (all_stop (Q := fun j => MethOk cs ms (mth ms j)) hil fun h9 => h8 (he.2 h9.2.2)))
        have hmi : MethOk cs ms (mth ms i) := ⟨ha.1 h6, hb.1 h7, he.1 h8⟩
        rw [w64' (n := ms.length) hil (by omega)]
        refine (ih (i + 1) (by omega) fun j hj => ?_).mono fun r hr => all_step (Q := fun j => MethOk cs ms (mth ms j)) hmi hr
        rcases Nat.eq_or_lt_of_le (Nat.le_of_lt_succ hj) with rfl | h9
        · exact hmi
        · exact hall j h9
    refine (k0 ms.length 0 (by omega) fun j hj => absurd hj (Nat.not_lt_zero _)).mono fun r hr => hr.trans ?_
    exact ⟨fun h6 => ⟨hok, by omega, ⟨h3, by omega, h5⟩, h6.1, h6.2⟩, fun h6 => ⟨h6.2.2.2.1, h6.2.2.2.2⟩⟩
  · rw [show ((mth ms 0).f3 != 1) = true by simpa using h5]
    exact jt1 fun h6 => h5 h6.2.2.1.2.2
theorem spec_unitOk {cs : List Cls} {ms : List Mth} (hu : SmallU cs ms) : Evp (fun k => spec_UnitOk.f k cs ms) (fun r => r = true ↔ UnitOk_ cs ms) := by
  have hs := hu.c
  have hm := hu.m
  have jt0 : ¬ UnitOk_ cs ms → Evp (fun k => spec_UnitOk.j0 k true cs ms) (fun r => r = true ↔ UnitOk_ cs ms) := fun h =>
    Evp.step (f := fun k => _) (fun k => by rw [spec_UnitOk.j0]) (Evp.yes rfl (Evp.pure _ (iff_no h)))
  have jt1 : ¬ UnitOk_ cs ms → Evp (fun k => spec_UnitOk.j1 k true cs ms) (fun r => r = true ↔ UnitOk_ cs ms) := fun h =>
    Evp.step (f := fun k => _) (fun k => by rw [spec_UnitOk.j1]) (Evp.yes rfl (Evp.pure _ (iff_no h)))
  unfold spec_UnitOk.f
  refine Evp.bind (spec_classesOk hs) fun c hc => Evp.ite (fun h => ?_) (fun h => jt0 fun h2 => h (hc.2 h2.1))
  have hok := hc.1 h
  rw [in_eq]
  simp only [Option.bind_some]
  by_cases h2 : 1 ≤ (ms.length : Int) ∧ (ms.length : Int) ≤ 4
  · rw [decide_eq_true h2]
    have e0 : rd_T46 ms 0 = mth ms 0 := rfl
    refine Evp.step (f := fun k => _) (fun k => by rw [spec_UnitOk.j0, e0]) (Evp.no (by decide) (Evp.yes (by omega) (Evp.ite (fun h3 => Evp.ite (fun h4 => jt1 fun h5 => by have := h5.2.2.1.2.1; omega) (fun h4 => ?_)) (fun h3 => jt1 fun h5 => h3 h5.2.2.1.1))))
    by_cases h5 : (mth ms 0).f3 = 1
    · rw [show ((mth ms 0).f3 != 1) = false by simpa using h5]
      refine Evp.step (f := fun k => _) (fun k => by rw [spec_UnitOk.j1]) (Evp.no (by decide) ?_)
      have k0 : ∀ d i : Nat, i + d = ms.length → (∀ j, j < i → MethOk cs ms (mth ms j)) → Evp (fun k => spec_UnitOk.l0 k (i : Int) cs ms) (fun r => r = true ↔ (∀ j, i ≤ j → j < ms.length → MethOk cs ms (mth ms j)) ∧ Agree cs ms) := by
        intro d
        induction d with
        | zero =>
          intro i hi hall
          refine Evp.step (f := fun k => _) (fun k => by rw [spec_UnitOk.l0]) (Evp.no (by omega) ?_)
          refine Evp.bind (spec_apart hok hm (inR_of hu fun j hj => hall j (by omega))) fun a ha => Evp.pure _ ?_
          exact ha.trans ⟨fun h => ⟨fun j hj hj2 => absurd hj2 (by omega), h⟩, fun h => h.2⟩
        | succ d ih =>
          intro i hi hall
          have hil : i < ms.length := by omega
          have hsm := hu.e i hil
          refine Evp.step (f := fun k => _) (fun k => by rw [spec_UnitOk.l0, rdM']) (Evp.yes (by omega) (Evp.yes (by omega) ?_))
          refine Evp.bind (spec_method hs hok ms hm (mth ms i) hsm.l2 hsm.l5 hsm.l6 hsm.l7 hsm.s6) fun a ha => Evp.ite (fun h6 => ?_) (fun h6 => Evp.pure _ (all_stop (Q := fun j => MethOk cs ms (mth ms j)) hil fun h9 => h6 (ha.2 h9)))
          rw [w64' (n := ms.length) hil (by omega)]
          refine (ih (i + 1) (by omega) fun j hj => ?_).mono fun r hr => all_step (Q := fun j => MethOk cs ms (mth ms j)) (ha.1 h6) hr
          rcases Nat.eq_or_lt_of_le (Nat.le_of_lt_succ hj) with rfl | h9
          · exact ha.1 h6
          · exact hall j h9
      refine (k0 ms.length 0 (by omega) fun j hj => absurd hj (Nat.not_lt_zero _)).mono fun r hr => hr.trans ?_
      exact ⟨fun h6 => ⟨hok, by omega, ⟨h3, by omega, h5⟩, h6.1, h6.2⟩, fun h6 => ⟨h6.2.2.2.1, h6.2.2.2.2⟩⟩
    · rw [show ((mth ms 0).f3 != 1) = true by simpa using h5]
      exact jt1 fun h6 => h5 h6.2.2.1.2.2
  · rw [decide_eq_false h2]
    exact jt0 fun h3 => h2 (by have := h3.2.1; omega)
end Go.Proofs.Ytedodaifpekahaa.Kit

end
section

namespace Go.Proofs.Ytedodaifpekahaa.Kit
open Go Go.RowKit Go.Proofs.YtedodaifpekahaaW.PrintWords Go.Proofs.Ytedodaifpekahaa.P
set_option linter.unusedVariables false
abbrev LCls := S58
def cvC (c : LCls) : Cls := ⟨c.f0, c.f1⟩
theorem rdL {xs : List LCls} {i : Nat} (h : i < xs.length) : rd_T58 xs (i : Int) = xs[i] := getD_at h _
theorem wf64 {n : Int} (h : (Lit.int .i64 n).wf = true) : -9223372036854775808 ≤ n ∧ n ≤ 9223372036854775807 := by
  simp [Lit.wf, IntKind.min, IntKind.max, IntKind.bits, IntKind.signed] at h
  omega
theorem sz_ints {l : List Int} {a : Int} (h0 : 0 ≤ a) (h1 : a ≤ 1048576) (hl : l.length ≤ 9223372036854775807) : ∃ t, laws_szIntS.f l a = some t ∧ (0 ≤ t → (l.length : Int) + t = a) := by
  unfold laws_szIntS.f
  rw [w64 (by omega) (by omega)]
  by_cases h : a - (l.length : Int) < 0
  · rw [if_pos h]; exact ⟨_, rfl, by omega⟩
  · rw [if_neg h]; exact ⟨_, rfl, by omega⟩
theorem sz_cls {l : List LCls} (hl : l.length ≤ 9223372036854775807) (hw : ∀ y ∈ l, wfS58 y) :
    Evp (fun k => laws_szClassS.f k l 1048576) (fun t => 0 ≤ t → t ≤ 1048576 ∧ SmallC (l.map cvC)) := by
  unfold laws_szClassS.f
  rw [w64 (by omega) (by omega)]
  refine Evp.ite (fun _ => Evp.pure _ (by omega)) (fun h => ?_)
  have key : ∀ i, i ≤ l.length → ∀ s : Int, (0 ≤ s ∧ s ≤ 1048576) → Evp (fun k => laws_szClassS.l0 k l s (i : Int)) (fun t => 0 ≤ t → t ≤ s ∧ ∀ o ∈ l.drop i, o.f1.length ≤ 1048576) := by
    refine Evp.fors (g := fun i s k => laws_szClassS.l0 k l s (i : Int)) (I := fun _ s => 0 ≤ s ∧ s ≤ 1048576) (R := fun i s t => 0 ≤ t → t ≤ s ∧ ∀ o ∈ l.drop i, o.f1.length ≤ 1048576) (fun s hs => ?_) (fun i hil ih s hs => ?_)
    · refine Evp.step (f := fun k => _) (fun k => by rw [laws_szClassS.l0]) (Evp.no (by omega) (Evp.pure _ (fun _ => ⟨by omega, by simp⟩)))
    · have hil2 := (hw _ (List.getElem_mem hil)).2.1
      obtain ⟨t, ht, ht2⟩ := sz_ints (l := l[i].f1) hs.1 hs.2 hil2
      refine Evp.step (f := fun k => _) (fun k => by rw [laws_szClassS.l0, rdL hil, laws_szClass.f, ht, Option.bind_some]) (Evp.yes (by omega) (Evp.yes (by omega) ?_))
      by_cases h3 : t < 0
      · simp only [if_pos h3, Option.bind_some]
        exact Evp.pure _ (by omega)
      · simp only [if_neg h3, Option.bind_some]
        rw [w64' hil (by omega)]
        refine (ih t (by omega)).mono fun r hr h0 => ?_
        obtain ⟨h4, h5⟩ := hr h0
        refine ⟨by omega, ?_⟩
        rw [drop_at hil]
        intro o ho
        rcases List.mem_cons.1 ho with rfl | ho
        · omega
        · exact h5 o ho
  refine (key 0 (Nat.zero_le _) _ (by omega)).mono fun t ht h0 => ?_
  obtain ⟨h2, h3⟩ := ht h0
  refine ⟨by omega, by rw [List.length_map]; omega, fun i hi => ?_⟩
  rw [List.length_map] at hi
  have e : flds (l.map cvC) i = l[i].f1 := by unfold flds; rw [getD_at (by simpa using hi)]; simp [cvC]
  rw [e]
  exact ⟨h3 _ (by simp), fun t ht => wf64 ((hw _ (List.getElem_mem hi)).2.2 t ht)⟩
theorem set_fill {α β : Type} (l : List α) (f : α → β) (z : β) {i : Nat} (hi : i < l.length) : ((l.take i).map f ++ List.replicate (l.length - i) z).set i (f l[i]) = (l.take (i + 1)).map f ++ List.replicate (l.length - (i + 1)) z := by
  rw [List.take_succ_eq_append_getElem hi, List.map_append, List.append_assoc]
  rw [List.set_append_right _ _ (by simp; omega)]
  congr 1
  rw [show l.length - i = (l.length - (i + 1)) + 1 by omega, List.replicate_succ]
  simp [Nat.min_eq_left (Nat.le_of_lt hi)]
theorem to_ints {l : List Int} (hl : l.length ≤ 1048576) : Evp (fun k => laws_toIntS.f k l) (fun r => r = l) := by
  unfold laws_toIntS.f
  refine Evp.yes (by omega) (Evp.yes (by omega) ?_)
  have key : ∀ i, i ≤ l.length → ∀ s : List Int, s = (l.take i).map id ++ List.replicate (l.length - i) 0 → Evp (fun k => laws_toIntS.l0 k l s (i : Int)) (fun r => r = l) := by
    refine Evp.fors (g := fun i s k => laws_toIntS.l0 k l s (i : Int)) (I := fun i s => s = (l.take i).map id ++ List.replicate (l.length - i) 0) (R := fun _ _ r => r = l) (fun s hs => ?_) (fun i hi ih s hs => ?_)
    · subst hs
      refine Evp.step (f := fun k => _) (fun k => by rw [laws_toIntS.l0]) (Evp.no (by omega) (Evp.pure _ (by simp)))
    · have hsl : s.length = l.length := by rw [hs]; simp; omega
      refine Evp.step (f := fun k => _) (fun k => by rw [laws_toIntS.l0, rdInt hi]) (Evp.yes (by omega) (Evp.yes (by omega) (Evp.yes (by omega) ?_)))
      rw [w64' hi (by omega)]
      refine ih _ ?_
      rw [hs]
      exact set_fill l id 0 hi
  exact key 0 (Nat.zero_le _) _ (by simp)
theorem to_cls {l : List LCls} (hl : SmallC (l.map cvC)) : Evp (fun k => laws_toClassS.f k l) (fun r => r = l.map cvC) := by
  have hl1 := hl.1
  rw [List.length_map] at hl1
  unfold laws_toClassS.f
  refine Evp.yes (by omega) (Evp.yes (by omega) ?_)
  have key : ∀ i, i ≤ l.length → ∀ s : List Cls, s = (l.take i).map cvC ++ List.replicate (l.length - i) z76 → Evp (fun k => laws_toClassS.l0 k l s (i : Int)) (fun r => r = l.map cvC) := by
    refine Evp.fors (g := fun i s k => laws_toClassS.l0 k l s (i : Int)) (I := fun i s => s = (l.take i).map cvC ++ List.replicate (l.length - i) z76) (R := fun _ _ r => r = l.map cvC) (fun s hs => ?_) (fun i hi ih s hs => ?_)
    · subst hs
      refine Evp.step (f := fun k => _) (fun k => by rw [laws_toClassS.l0]) (Evp.no (by omega) (Evp.pure _ (by simp)))
    · have hsl : s.length = l.length := by rw [hs]; simp; omega
      refine Evp.step (f := fun k => _) (fun k => by rw [laws_toClassS.l0, rdL hi]) (Evp.yes (by omega) (Evp.yes (by omega) ?_))
      refine Evp.bind (P := fun r => r = (l[i].f0, l[i].f1)) ?_ (fun a ha => ?_)
      · unfold laws_toClass.f
        have e : flds (l.map cvC) i = l[i].f1 := by unfold flds; rw [getD_at (by simpa using hi)]; simp [cvC]
        have := (hl.2 i (by simpa using hi)).1
        rw [e] at this
        exact Evp.bind (to_ints this) (fun a ha => Evp.pure _ (by rw [ha]))
      · subst ha
        refine Evp.yes (by omega) ?_
        rw [w64' hi (by omega)]
        refine ih _ ?_
        rw [hs]
        exact set_fill l cvC z76 hi
  exact key 0 (Nat.zero_le _) _ (by simp)
theorem eq_ints {l : List Int} (hl : l.length ≤ 1048576) : Evp (fun k => laws_eqIntS.f k l l) (fun r => r = true) := by
  unfold laws_eqIntS.f
  refine Evp.yes rfl ?_
  refine Evp.for_ (n := l.length) (g := fun i k => laws_eqIntS.l0 k l l (i : Int)) (R := fun _ r => r = true) ?_ (fun i hi ih => ?_) 0 (Nat.zero_le _)
  · refine Evp.step (f := fun k => _) (fun k => by rw [laws_eqIntS.l0]) (Evp.no (by omega) (Evp.pure _ rfl))
  · refine Evp.step (f := fun k => _) (fun k => by rw [laws_eqIntS.l0]) (Evp.yes (by omega) (Evp.yes (by omega) (Evp.yes (by omega) (Evp.yes rfl ?_))))
    rw [w64' hi (by omega)]
    exact ih
theorem eq_cls {l : List Cls} (hl : SmallC l) : Evp (fun k => laws_eqClassS.f k l l) (fun r => r = true) := by
  have hl1 := hl.1
  unfold laws_eqClassS.f
  refine Evp.yes rfl ?_
  refine Evp.for_ (n := l.length) (g := fun i k => laws_eqClassS.l0 k l l (i : Int)) (R := fun _ r => r = true) ?_ (fun i h ih => ?_) 0 (Nat.zero_le _)
  · refine Evp.step (f := fun k => _) (fun k => by rw [laws_eqClassS.l0]) (Evp.no (by omega) (Evp.pure _ rfl))
  · refine Evp.step (f := fun k => _) (fun k => by rw [laws_eqClassS.l0]) (Evp.yes (by omega) (Evp.yes (by omega) (Evp.yes (by omega) ?_)))
    refine Evp.bind (P := fun r => r = true) ?_ (fun a ha => ?_)
    · unfold laws_eqClass.f
      rw [rdFlds]
      exact Evp.yes rfl (Evp.bind (eq_ints (hl.2 i h).1) (fun a ha => Evp.yes ha (Evp.pure _ rfl)))
    · refine Evp.yes ha ?_
      rw [w64' h (by omega)]
      exact ih
theorem sz_shape {x0 : Bool} {l1 l2 : List Int} {a : Int} (h0 : 0 ≤ a) (h1 : a ≤ 1048576) (hl1 : l1.length ≤ 9223372036854775807) (hl2 : l2.length ≤ 9223372036854775807) :
    ∃ t, laws_szShape.f x0 l1 l2 a = some t ∧ (0 ≤ t → t ≤ a ∧ l1.length ≤ 1048576 ∧ l2.length ≤ 1048576) := by
  unfold laws_szShape.f
  obtain ⟨t, ht, ht2⟩ := sz_ints (l := l1) h0 h1 hl1
  rw [ht, Option.bind_some]
  by_cases h : t < 0
  · rw [if_pos h]; exact ⟨_, rfl, by omega⟩
  · rw [if_neg h]
    obtain ⟨q, hq, hq2⟩ := sz_ints (l := l2) (a := t) (by omega) (by omega) hl2
    rw [hq, Option.bind_some]
    by_cases h' : q < 0
    · rw [if_pos h']; exact ⟨_, rfl, by omega⟩
    · rw [if_neg h']; exact ⟨_, rfl, by omega⟩
theorem to_shape {x0 : Bool} {l1 l2 : List Int} (hl1 : l1.length ≤ 1048576) (hl2 : l2.length ≤ 1048576) : Evp (fun k => laws_toShape.f k x0 l1 l2) (fun r => r = (x0, l1, l2)) := by
  unfold laws_toShape.f
  exact Evp.bind (to_ints hl1) fun a ha => Evp.bind (to_ints hl2) fun b hb => Evp.pure _ (by rw [ha, hb])
theorem eq_shape {x0 : Bool} {l1 l2 : List Int} (hl1 : l1.length ≤ 1048576) (hl2 : l2.length ≤ 1048576) : Evp (fun k => laws_eqShape.f k x0 l1 l2 x0 l1 l2) (fun r => r = true) := by
  unfold laws_eqShape.f
  exact Evp.no (by simp) (Evp.bind (eq_ints hl1) fun a ha => Evp.yes ha (Evp.bind (eq_ints hl2) fun b hb => Evp.yes hb (Evp.pure _ rfl)))
end Go.Proofs.Ytedodaifpekahaa.Kit

end
section

namespace Go.Proofs.Ytedodaifpekahaa.Kit
open Go Go.RowKit Go.Proofs.YtedodaifpekahaaW.PrintWords Go.Proofs.Ytedodaifpekahaa.P
set_option linter.unusedVariables false
set_option linter.unusedSimpArgs false
abbrev LMth := S64
abbrev LIns := S113
abbrev LShp := S111
abbrev LCth := S116
def cvX (x : LIns) : Ins := ⟨x.f0, x.f1, x.f2⟩
def cvS (x : LShp) : Shp_ := ⟨x.f0, x.f1, x.f2⟩
def cvK (x : LCth) : Cth := ⟨x.f0, x.f1, x.f2, x.f3⟩
def cvM (x : LMth) : Mth := ⟨x.f0, x.f1, x.f2, x.f3, x.f4, x.f5.map cvX, x.f6.map cvS, x.f7.map cvK⟩
theorem rdLX {xs : List LIns} {i : Nat} (h : i < xs.length) : rd_T113 xs (i : Int) = xs[i] := getD_at h _
theorem rdLS {xs : List LShp} {i : Nat} (h : i < xs.length) : rd_T111 xs (i : Int) = xs[i] := getD_at h _
theorem rdLK {xs : List LCth} {i : Nat} (h : i < xs.length) : rd_T116 xs (i : Int) = xs[i] := getD_at h _
theorem rdLM {xs : List LMth} {i : Nat} (h : i < xs.length) : rd_T64 xs (i : Int) = xs[i] := getD_at h _
theorem fill_evp {α β : Type} (l : List α) (f : α → β) (z : β) {g : Nat → List β → Nat → Option (List β)} (hend : ∀ s : List β, s.length = l.length → Evp (g l.length s) (fun r => r = s))
    (hstep : ∀ (i : Nat) (hi : i < l.length) (s : List β), s.length = l.length → Evp (g (i + 1) (s.set i (f l[i]))) (fun r => r = l.map f) → Evp (g i s) (fun r => r = l.map f)) : Evp (g 0 (List.replicate l.length z)) (fun r => r = l.map f) := by
  have key : ∀ i, i ≤ l.length → ∀ s : List β, s = (l.take i).map f ++ List.replicate (l.length - i) z → Evp (g i s) (fun r => r = l.map f) := by
    refine Evp.fors (g := g) (I := fun i s => s = (l.take i).map f ++ List.replicate (l.length - i) z) (R := fun _ _ r => r = l.map f) (fun s hs => ?_) (fun i hi ih s hs => ?_)
    · have hs2 : s = l.map f := by rw [hs]; simp
      exact (hend s (by rw [hs2]; simp)).mono fun r hr => by rw [hr, hs2]
    · have hsl : s.length = l.length := by rw [hs]; simp; omega
      refine hstep i hi s hsl (ih _ ?_)
      rw [hs]
      exact set_fill l f z hi
  exact key 0 (Nat.zero_le _) _ (by simp)
theorem to_ins {l : List LIns} (hl : l.length ≤ 1048576) : Evp (fun k => laws_toInsS.f k l) (fun r => r = l.map cvX) := by
  unfold laws_toInsS.f
  refine Evp.yes (by omega) (Evp.yes (by omega) ?_)
  rw [Int.toNat_natCast]
  refine fill_evp l cvX z67 (g := fun i s k => laws_toInsS.l0 k l s (i : Int)) (fun s hs => ?_) (fun i hi s hs ih => ?_)
  · exact Evp.step (f := fun k => _) (fun k => by rw [laws_toInsS.l0]) (Evp.no (by omega) (Evp.pure _ rfl))
  · refine Evp.step (f := fun k => _) (fun k => by rw [laws_toInsS.l0, rdLX hi, laws_toIns.f, Option.bind_some]) (Evp.yes (by omega) (Evp.yes (by omega) (Evp.yes (by omega) ?_)))
    rw [w64' hi (by omega)]
    exact ih
theorem to_catches {l : List LCth} (hl : l.length ≤ 1048576) : Evp (fun k => laws_toCatchS.f k l) (fun r => r = l.map cvK) := by
  unfold laws_toCatchS.f
  refine Evp.yes (by omega) (Evp.yes (by omega) ?_)
  rw [Int.toNat_natCast]
  refine fill_evp l cvK z73 (g := fun i s k => laws_toCatchS.l0 k l s (i : Int)) (fun s hs => ?_) (fun i hi s hs ih => ?_)
  · exact Evp.step (f := fun k => _) (fun k => by rw [laws_toCatchS.l0]) (Evp.no (by omega) (Evp.pure _ rfl))
  · refine Evp.step (f := fun k => _) (fun k => by rw [laws_toCatchS.l0, rdLK hi, laws_toCatch.f, Option.bind_some]) (Evp.yes (by omega) (Evp.yes (by omega) (Evp.yes (by omega) ?_)))
    rw [w64' hi (by omega)]
    exact ih
def SzS (s : LShp) : Prop := s.f1.length ≤ 1048576 ∧ s.f2.length ≤ 1048576
def SzM (m : LMth) : Prop := m.f2.length ≤ 1048576 ∧ m.f5.length ≤ 1048576 ∧ m.f6.length ≤ 1048576 ∧ m.f7.length ≤ 1048576 ∧ ∀ s ∈ m.f6, SzS s
theorem to_shapes {l : List LShp} (hl : l.length ≤ 1048576) (hs : ∀ s ∈ l, SzS s) : Evp (fun k => laws_toShapeS.f k l) (fun r => r = l.map cvS) := by
  unfold laws_toShapeS.f
  refine Evp.yes (by omega) (Evp.yes (by omega) ?_)
  rw [Int.toNat_natCast]
  refine fill_evp l cvS z70 (g := fun i s k => laws_toShapeS.l0 k l s (i : Int)) (fun s hs => ?_) (fun i hi s hs' ih => ?_)
  · exact Evp.step (f := fun k => _) (fun k => by rw [laws_toShapeS.l0]) (Evp.no (by omega) (Evp.pure _ rfl))
  · have hsz := hs _ (List.getElem_mem hi)
    refine Evp.step (f := fun k => _) (fun k => by rw [laws_toShapeS.l0, rdLS hi]) (Evp.yes (by omega) (Evp.yes (by omega) (Evp.bind (to_shape hsz.1 hsz.2) fun b hb => Evp.yes (by omega) ?_)))
    subst hb
    rw [w64' hi (by omega)]
    exact ih
theorem to_method {m : LMth} (h : SzM m) : Evp (fun k => laws_toMethod.f k m.f0 m.f1 m.f2 m.f3 m.f4 m.f5 m.f6 m.f7) (fun r => r = (m.f0, m.f1, m.f2, m.f3, m.f4, m.f5.map cvX, m.f6.map cvS, m.f7.map cvK)) := by
  unfold laws_toMethod.f
  refine Evp.bind (to_ints h.1) fun a ha => Evp.bind (to_ins h.2.1) fun b hb => Evp.bind (to_shapes h.2.2.1 h.2.2.2.2) fun c hc => Evp.bind (to_catches h.2.2.2.1) fun d hd => Evp.pure _ (by rw [ha, hb, hc, hd])
theorem to_methods {l : List LMth} (hl : l.length ≤ 1048576) (hm : ∀ m ∈ l, SzM m) : Evp (fun k => laws_toMethodS.f k l) (fun r => r = l.map cvM) := by
  unfold laws_toMethodS.f
  refine Evp.yes (by omega) (Evp.yes (by omega) ?_)
  rw [Int.toNat_natCast]
  refine fill_evp l cvM z46 (g := fun i s k => laws_toMethodS.l0 k l s (i : Int)) (fun s hs => ?_) (fun i hi s hs' ih => ?_)
  · exact Evp.step (f := fun k => _) (fun k => by rw [laws_toMethodS.l0]) (Evp.no (by omega) (Evp.pure _ rfl))
  · refine Evp.step (f := fun k => _) (fun k => by rw [laws_toMethodS.l0, rdLM hi]) (Evp.yes (by omega) (Evp.yes (by omega) (Evp.bind (to_method (hm _ (List.getElem_mem hi))) fun b hb => Evp.yes (by omega) ?_)))
    subst hb
    rw [w64' hi (by omega)]
    exact ih
theorem eq_all {n : Nat} {g : Nat → Nat → Option Bool} (hend : Evp (g n) (fun r => r = true)) (hstep : ∀ i, i < n → Evp (g (i + 1)) (fun r => r = true) → Evp (g i) (fun r => r = true)) : Evp (g 0) (fun r => r = true) :=
  Evp.for_ (g := g) (R := fun _ r => r = true) hend hstep 0 (Nat.zero_le _)
theorem eq_ins {l : List Ins} (hl : l.length ≤ 1048576) : Evp (fun k => laws_eqInsS.f k l l) (fun r => r = true) := by
  unfold laws_eqInsS.f
  refine Evp.yes rfl (eq_all (n := l.length) (g := fun i k => laws_eqInsS.l0 k l l (i : Int)) ?_ (fun i hi ih => ?_))
  · exact Evp.step (f := fun k => _) (fun k => by rw [laws_eqInsS.l0]) (Evp.no (by omega) (Evp.pure _ rfl))
  · refine Evp.step (f := fun k => _) (fun k => by rw [laws_eqInsS.l0]) (Evp.yes (by omega) (Evp.yes (by omega) (Evp.yes (by omega) ?_)))
    refine Evp.bind (P := fun r => r = true) ?_ (fun a ha => Evp.yes ha ?_)
    · unfold laws_eqIns.f
      exact Evp.yes rfl (Evp.yes rfl (Evp.yes rfl (Evp.pure _ rfl)))
    · rw [w64' hi (by omega)]
      exact ih
theorem eq_catches {l : List Cth} (hl : l.length ≤ 1048576) : Evp (fun k => laws_eqCatchS.f k l l) (fun r => r = true) := by
  unfold laws_eqCatchS.f
  refine Evp.yes rfl (eq_all (n := l.length) (g := fun i k => laws_eqCatchS.l0 k l l (i : Int)) ?_ (fun i hi ih => ?_))
  · exact Evp.step (f := fun k => _) (fun k => by rw [laws_eqCatchS.l0]) (Evp.no (by omega) (Evp.pure _ rfl))
  · refine Evp.step (f := fun k => _) (fun k => by rw [laws_eqCatchS.l0]) (Evp.yes (by omega) (Evp.yes (by omega) (Evp.yes (by omega) ?_)))
    refine Evp.bind (P := fun r => r = true) ?_ (fun a ha => Evp.yes ha ?_)
    · unfold laws_eqCatch.f
      exact Evp.yes rfl (Evp.yes rfl (Evp.yes rfl (Evp.yes rfl (Evp.pure _ rfl))))
    · rw [w64' hi (by omega)]
      exact ih
theorem eq_shapes {l : List Shp_} (hl : l.length ≤ 1048576) (hs : ∀ j, j < l.length → SmallS (l.getD j z70)) : Evp (fun k => laws_eqShapeS.f k l l) (fun r => r = true) := by
  unfold laws_eqShapeS.f
  refine Evp.yes rfl (eq_all (n := l.length) (g := fun i k => laws_eqShapeS.l0 k l l (i : Int)) ?_ (fun i hi ih => ?_))
  · exact Evp.step (f := fun k => _) (fun k => by rw [laws_eqShapeS.l0]) (Evp.no (by omega) (Evp.pure _ rfl))
  · have h := hs i hi
    refine Evp.step (f := fun k => _) (fun k => by rw [laws_eqShapeS.l0, rdS]) (Evp.yes (by omega) (Evp.yes (by omega) (Evp.yes (by omega) (Evp.bind (eq_shape h.l1 h.l2) fun b hb => Evp.yes hb ?_))))
    rw [w64' hi (by omega)]
    exact ih
theorem eq_method {m : Mth} (h : SmallM m) : Evp (fun k => laws_eqMethod.f k m.f0 m.f1 m.f2 m.f3 m.f4 m.f5 m.f6 m.f7 m.f0 m.f1 m.f2 m.f3 m.f4 m.f5 m.f6 m.f7) (fun r => r = true) := by
  unfold laws_eqMethod.f
  refine Evp.yes rfl (Evp.yes rfl (Evp.bind (eq_ints h.l2) fun a ha => Evp.yes ha (Evp.yes rfl (Evp.yes rfl (Evp.bind (eq_ins h.l5) fun b hb => Evp.yes hb (Evp.bind (eq_shapes h.l6 h.s6) fun c hc => Evp.yes hc (Evp.bind (eq_catches h.l7) fun d hd => Evp.yes hd (Evp.pure _ rfl))))))))
theorem eq_methods {l : List Mth} (hl : l.length ≤ 1048576) (hs : ∀ j, j < l.length → SmallM (mth l j)) : Evp (fun k => laws_eqMethodS.f k l l) (fun r => r = true) := by
  unfold laws_eqMethodS.f
  refine Evp.yes rfl (eq_all (n := l.length) (g := fun i k => laws_eqMethodS.l0 k l l (i : Int)) ?_ (fun i hi ih => ?_))
  · exact Evp.step (f := fun k => _) (fun k => by rw [laws_eqMethodS.l0]) (Evp.no (by omega) (Evp.pure _ rfl))
  · refine Evp.step (f := fun k => _) (fun k => by rw [laws_eqMethodS.l0, rdM']) (Evp.yes (by omega) (Evp.yes (by omega) (Evp.yes (by omega) (Evp.bind (eq_method (hs i hi)) fun b hb => Evp.yes hb ?_))))
    rw [w64' hi (by omega)]
    exact ih
theorem eq_unit {cs : List Cls} {ms : List Mth} (h : SmallU cs ms) : Evp (fun k => laws_eqUnit.f k cs ms cs ms) (fun r => r = true) := by
  unfold laws_eqUnit.f
  exact Evp.bind (eq_cls h.c) fun a ha => Evp.yes ha (Evp.bind (eq_methods h.m h.e) fun b hb => Evp.yes hb (Evp.pure _ rfl))
theorem sz_loop {α : Type} {l : List α} {Q : α → Prop} {g : Nat → Int → Nat → Option Int} (hend : ∀ s, 0 ≤ s → Evp (g l.length s) (fun t => t = s))
    (hstep : ∀ (i : Nat) (hi : i < l.length) (s : Int), 0 ≤ s → s ≤ 1048576 → (∀ t, 0 ≤ t → t ≤ s → Q l[i] → Evp (g (i + 1) t) (fun r => 0 ≤ r → r ≤ t ∧ ∀ o ∈ l.drop (i + 1), Q o)) → Evp (g i s) (fun r => 0 ≤ r → r ≤ s ∧ ∀ o ∈ l.drop i, Q o)) :
    ∀ s, 0 ≤ s → s ≤ 1048576 → Evp (g 0 s) (fun r => 0 ≤ r → r ≤ s ∧ ∀ o ∈ l, Q o) := by
  have key : ∀ i, i ≤ l.length → ∀ s : Int, (0 ≤ s ∧ s ≤ 1048576) → Evp (g i s) (fun r => 0 ≤ r → r ≤ s ∧ ∀ o ∈ l.drop i, Q o) := by
    refine Evp.fors (g := g) (I := fun _ s => 0 ≤ s ∧ s ≤ 1048576) (R := fun i s r => 0 ≤ r → r ≤ s ∧ ∀ o ∈ l.drop i, Q o) (fun s hs => ?_) (fun i hi ih s hs => ?_)
    · exact (hend s hs.1).mono fun r hr h0 => ⟨by omega, by simp⟩
    · exact hstep i hi s hs.1 hs.2 fun t h0 h1 _ => ih t ⟨h0, by omega⟩
  intro s h0 h1
  exact key 0 (Nat.zero_le _) s ⟨h0, h1⟩
theorem drop_cons {α : Type} {l : List α} {Q : α → Prop} {i : Nat} (hi : i < l.length) (h : Q l[i]) (h2 : ∀ o ∈ l.drop (i + 1), Q o) : ∀ o ∈ l.drop i, Q o := by
  rw [drop_at hi]
  intro o ho
  rcases List.mem_cons.1 ho with rfl | ho
  · exact h
  · exact h2 o ho
theorem sz_shapes {l : List LShp} {a : Int} (h0 : 0 ≤ a) (h1 : a ≤ 1048576) (hl : l.length ≤ 9223372036854775807) (hw : ∀ y ∈ l, wfS111 y) :
    Evp (fun k => laws_szShapeS.f k l a) (fun t => 0 ≤ t → t ≤ a ∧ l.length ≤ 1048576 ∧ ∀ s ∈ l, SzS s) := by
  unfold laws_szShapeS.f
  rw [w64 (by omega) (by omega)]
  refine Evp.ite (fun _ => Evp.pure _ (by omega)) (fun h => ?_)
  refine (sz_loop (l := l) (Q := SzS) (g := fun i s k => laws_szShapeS.l0 k l s (i : Int)) (fun s hs => ?_) (fun i hi s hs0 hs1 ih => ?_) _ (by omega) (by omega)).mono fun t ht h2 => ⟨by have := (ht h2).1; omega, by omega, (ht h2).2⟩
  · exact Evp.step (f := fun k => _) (fun k => by rw [laws_szShapeS.l0]) (Evp.no (by omega) (Evp.pure _ rfl))
  · have hwi := hw _ (List.getElem_mem hi)
    obtain ⟨t, ht, ht2⟩ := sz_shape (x0 := l[i].f0) hs0 hs1 hwi.2.1.1 hwi.2.2.1
    refine Evp.step (f := fun k => _) (fun k => by rw [laws_szShapeS.l0, rdLS hi, ht, Option.bind_some]) (Evp.yes (by omega) (Evp.yes (by omega) (Evp.ite (fun _ => Evp.pure _ (by omega)) (fun h3 => ?_))))
    obtain ⟨h4, h5, h6⟩ := ht2 (by omega)
    rw [w64' hi (by omega)]
    exact (ih t (by omega) h4 ⟨h5, h6⟩).mono fun r hr hr0 => ⟨by have := (hr hr0).1; omega, drop_cons hi ⟨h5, h6⟩ (hr hr0).2⟩
theorem sz_method {m : LMth} {a : Int} (h0 : 0 ≤ a) (h1 : a ≤ 1048576) (hw : wfS64 m) : Evp (fun k => laws_szMethod.f k m.f0 m.f1 m.f2 m.f3 m.f4 m.f5 m.f6 m.f7 a) (fun t => 0 ≤ t → t ≤ a ∧ SzM m) := by
  obtain ⟨_, _, ⟨w2, _⟩, _, _, ⟨w5, _⟩, ⟨w6, w6'⟩, ⟨w7, _⟩⟩ := hw
  unfold laws_szMethod.f
  obtain ⟨t, ht, ht2⟩ := sz_ints (l := m.f2) h0 h1 w2
  rw [ht]
  simp only [Option.bind_some]
  refine Evp.ite (fun _ => Evp.pure _ (by omega)) (fun h => ?_)
  have ht3 := ht2 (by omega)
  unfold laws_szInsS.f
  rw [w64 (by omega) (by omega)]
  by_cases h2 : t - (m.f5.length : Int) < 0
  · simp only [if_pos h2, Option.bind_some]
    exact Evp.yes (by decide) (Evp.pure _ (by omega))
  simp only [if_neg h2, Option.bind_some]
  refine Evp.bind (sz_shapes (by omega) (by omega) w6 w6') fun u hu => Evp.ite (fun _ => Evp.pure _ (by omega)) (fun h3 => ?_)
  have hu2 := hu (by omega)
  unfold laws_szCatchS.f
  rw [w64 (by omega) (by omega)]
  by_cases h4 : u - (m.f7.length : Int) < 0
  · simp only [if_pos h4, Option.bind_some]
    exact Evp.yes (by decide) (Evp.pure _ (by omega))
  simp only [if_neg h4, Option.bind_some]
  exact Evp.pure _ fun _ => ⟨by omega, by omega, by omega, hu2.2.1, by omega, hu2.2.2⟩
theorem sz_methods {l : List LMth} {a : Int} (h0 : 0 ≤ a) (h1 : a ≤ 1048576) (hl : l.length ≤ 9223372036854775807) (hw : ∀ y ∈ l, wfS64 y) :
    Evp (fun k => laws_szMethodS.f k l a) (fun t => 0 ≤ t → t ≤ a ∧ l.length ≤ 1048576 ∧ ∀ m ∈ l, SzM m) := by
  unfold laws_szMethodS.f
  rw [w64 (by omega) (by omega)]
  refine Evp.ite (fun _ => Evp.pure _ (by omega)) (fun h => ?_)
  refine (sz_loop (l := l) (Q := SzM) (g := fun i s k => laws_szMethodS.l0 k l s (i : Int)) (fun s hs => ?_) (fun i hi s hs0 hs1 ih => ?_) _ (by omega) (by omega)).mono fun t ht h2 => ⟨by have := (ht h2).1; omega, by omega, (ht h2).2⟩
  · exact Evp.step (f := fun k => _) (fun k => by rw [laws_szMethodS.l0]) (Evp.no (by omega) (Evp.pure _ rfl))
  · refine Evp.step (f := fun k => _) (fun k => by rw [laws_szMethodS.l0, rdLM hi]) (Evp.yes (by omega) (Evp.yes (by omega) (Evp.bind (sz_method hs0 hs1 (hw _ (List.getElem_mem hi))) fun t ht => Evp.ite (fun _ => Evp.pure _ (by omega)) (fun h3 => ?_))))
    obtain ⟨h4, h5⟩ := ht (by omega)
    rw [w64' hi (by omega)]
    exact (ih t (by omega) h4 h5).mono fun r hr hr0 => ⟨by have := (hr hr0).1; omega, drop_cons hi h5 (hr hr0).2⟩
def cvU (x : S25) : List Cls × List Mth := (x.f0.map cvC, x.f1.map cvM)
theorem smallM_of {m : LMth} (h : SzM m) (hw : wfS64 m) : SmallM (cvM m) := by
  obtain ⟨_, _, ⟨w2, w2'⟩, w3, _, _, ⟨_, w6'⟩, _⟩ := hw
  refine ⟨wf64 w3, h.1, fun t ht => wf64 (w2' t ht), by show (m.f5.map cvX).length ≤ _; rw [List.length_map]; exact h.2.1, by show (m.f6.map cvS).length ≤ _; rw [List.length_map]; exact h.2.2.1, by show (m.f7.map cvK).length ≤ _; rw [List.length_map]; exact h.2.2.2.1, fun j hj => ?_⟩
  have hj' : j < m.f6.length := by have : j < (m.f6.map cvS).length := hj; rwa [List.length_map] at this
  have e : (cvM m).f6.getD j z70 = cvS m.f6[j] := by
    show (m.f6.map cvS).getD j _ = _
    rw [getD_at (by rw [List.length_map]; exact hj')]; simp
  rw [e]
  have hs := h.2.2.2.2 _ (List.getElem_mem hj')
  have hws := w6' _ (List.getElem_mem hj')
  exact ⟨hs.1, hs.2, fun t ht => wf64 (hws.2.1.2 t ht), fun t ht => wf64 (hws.2.2.2 t ht)⟩
theorem sz_unit {x : S25} (hw : wfS25 x) : Evp (fun k => laws_szUnit.f k x.f0 x.f1 1048576) (fun t => 0 ≤ t → SmallC (x.f0.map cvC) ∧ x.f1.length ≤ 1048576 ∧ ∀ m ∈ x.f1, SzM m) := by
  obtain ⟨⟨w0, w0'⟩, ⟨w1, w1'⟩⟩ := hw
  unfold laws_szUnit.f
  refine Evp.bind (sz_cls w0 w0') fun t ht => Evp.ite (fun _ => Evp.pure _ (by omega)) (fun h => ?_)
  have ht2 := ht (by omega)
  refine Evp.bind (sz_methods (by omega) ht2.1 w1 w1') fun u hu => Evp.ite (fun _ => Evp.pure _ (by omega)) (fun h2 => Evp.pure _ fun h3 => ?_)
  have hu2 := hu h3
  exact ⟨ht2.2, hu2.2.1, hu2.2.2⟩
theorem to_unit {x : S25} (h : SmallC (x.f0.map cvC) ∧ x.f1.length ≤ 1048576 ∧ ∀ m ∈ x.f1, SzM m) : Evp (fun k => laws_toUnit.f k x.f0 x.f1) (fun r => r = cvU x) := by
  unfold laws_toUnit.f
  exact Evp.bind (to_cls h.1) fun a ha => Evp.bind (to_methods h.2.1 h.2.2) fun b hb => Evp.pure _ (by rw [ha, hb]; rfl)
theorem smallU_of {x : S25} (hw : wfS25 x) (h : SmallC (x.f0.map cvC) ∧ x.f1.length ≤ 1048576 ∧ ∀ m ∈ x.f1, SzM m) : SmallU (cvU x).1 (cvU x).2 := by
  obtain ⟨_, ⟨w1, w1'⟩⟩ := hw
  refine ⟨h.1, by show (x.f1.map cvM).length ≤ _; rw [List.length_map]; exact h.2.1, fun i hi => ?_⟩
  have hi' : i < x.f1.length := by have : i < (x.f1.map cvM).length := hi; rwa [List.length_map] at this
  have e : mth (cvU x).2 i = cvM x.f1[i] := by
    show (x.f1.map cvM).getD i _ = _
    rw [getD_at (by rw [List.length_map]; exact hi')]; simp
  rw [e]
  exact smallM_of (h.2.2 _ (List.getElem_mem hi')) (w1' _ (List.getElem_mem hi'))
end Go.Proofs.Ytedodaifpekahaa.Kit

end
section

namespace Go.Proofs.Ytedodaifpekahaa.Pure
open Go Go.RowKit Go.Proofs.YtedodaifpekahaaW.PrintWords Go.Proofs.Ytedodaifpekahaa.P Go.Proofs.Ytedodaifpekahaa.Kit
theorem FnExactUnitOk : laws_FnExactUnitOk.Pure := by
  intro x hw
  refine Evp.rounds ?_
  unfold laws_FnExactUnitOk.f
  refine Evp.bind (sz_unit hw) fun t ht => Evp.ite (fun _ => Evp.pure _ rfl) (fun h => ?_)
  have hc := ht (by omega)
  have hu := smallU_of hw hc
  refine Evp.bind (to_unit hc) fun a ha => ?_
  subst ha
  refine Evp.bind (spec_unitOk hu) fun u hu1 => Evp.bind (to_unit hc) fun b hb => ?_
  subst hb
  refine Evp.bind (impl_unitOk hu) fun v hv1 => Evp.no (bne_no hu1 hv1) (Evp.bind (to_unit hc) fun c hc' => ?_)
  subst hc'
  exact Evp.bind (eq_unit hu) fun e he => Evp.yes he (Evp.pure _ rfl)
end Go.Proofs.Ytedodaifpekahaa.Pure

end
section

namespace Go.Proofs.Ytedodaifpekahaa.fnExactUnitOk
open Go Go.ChangeShapes Go.WideShapes Go.ChangeAt Go.RowKit Go.Proofs.YtedodaifpekahaaW.PrintWords Go.Proofs.Ytedodaifpekahaa.P Go.Proofs.Ytedodaifpekahaa.Open
set_option linter.unusedVariables false
theorem own : ownKnob Try.prog.godebug = none := by kernel_rfl
theorem laidOut : laidOutB Try.prog = true := by kernel_rfl
set_option maxRecDepth 100000 in
theorem lifted (os : Os) (started : os.Started) (H : Type) (enc : TypeId × Value → H) :
    ReturnsInHanded {} Try.checked os 3 .any (Rows.fnExactUnitOkSpec.pre6 enc Try.prog Try.f3 Rows.fnExactUnitOkRow.domain false) (Rows.fnExactUnitOkSpec.post enc Try.prog Try.f3 false true false false) := by
  refine returnsInHanded_of_change_sized (C := Try.checked) own started (by kernel_rfl) Try.func3
    (ChangeSpec.witness6 (enc := enc) (C := Try.checked) false ⟨#[], #[.agg #[.slice none 0 0, .slice none 0 0]], []⟩ 8 (by kernel_rfl) (by kernel_rfl) (by kernel_rfl) (by kernel_rfl)) ?_
  intro W base args ds gs before hval0 hW hcnd hsz0 _
  have hval : ∀ (j : Nat) t v, Try.f3.params[j]? = some t → args[j]? = some v → Value.okWide Try.prog W .any base t v := hval0
  have hW' := hW
  obtain ⟨p, q, hA0, hV, rfl, hfz, hnd⟩ := hW
  have hA : DataW.TrodAll enc Try.prog W 0 (fun _ => true) true Try.f3.params.toList args.toList ds p := hA0
  rw [Try.params3] at hA hval
  obtain ⟨v0, vs0, d0, ds0, p0, q0, hargs, rfl, rfl, h0, r0⟩ := trodAll_cons hA
  obtain ⟨rfl, rfl, rfl⟩ := trodAll_nil r0
  obtain rfl : args = #[v0] := by cases args; simp_all
  obtain ⟨rfl, rfl⟩ := trodVars_none hV
  have k0 := h0
  have lt0 : ∀ x ∈ p0, x.block < W.heap.size := by obtain ⟨m, hm⟩ := k0; exact DataW.trod_lt m _ _ _ hm
  obtain ⟨x0, g0, wf0⟩ := opens_arg (v := v0) h0 (opens25 H enc W 0 (fun _ => true) true)
  obtain ⟨cs0, rfl, z0⟩ := okWide_struct Try.underlying25 (hval 0 25 v0 rfl rfl)
  obtain ⟨A0_0, c0_0, A0_1, c0_1, e0, hc0_0, hr0_0, hc0_1, hr0_1⟩ := k25_open g0
  obtain rfl : cs0 = #[.slice A0_0 x0.f0.length c0_0, .slice A0_1 x0.f1.length c0_1] := by cases cs0; simpa [Value.cells] using e0
  clear hA0 hval0 hsz0
  obtain ⟨k, h⟩ := Pure.FnExactUnitOk x0 wf0
  refine (laws_FnExactUnitOk.calls k _ _ x0.f0 _ _ x0.f1 true W hr0_0 hc0_0 hr0_1 hc0_1 h rfl).mono fun e W' ⟨he, bel⟩ => ?_
  subst he
  exact ⟨_, rfl, _, _, _, [], _, [], hW', trodAll_mk1 (shut_bool Try.underlying4 _), (trodAll_cons_mk (Below.trod laidOut (by kernel_rfl) (of_decide_eq_true (by kernel_rfl)) k0 bel lt0) trodAll_mk0), rfl, bel.frame _, fun h => by cases h⟩
theorem over : Rows.fnExactUnitOkRow.holds Try.pinned (OpenSpec.ofChange Rows.fnExactUnitOkSpec) :=
  OpenClaim.holds_of_wide 3 Try.f3 rfl rfl rfl rfl rfl rfl rfl ⟨rfl, rfl, rfl, rfl, rfl⟩ rfl rfl rfl rfl rfl (by kernel_rfl) Try.func3 (by show joinedFacts Try.prog _ _ _ _ = true; unfold joinedFacts; rw [Go.Proofs.Ytedodaifpekahaa.enter, Go.Proofs.Ytedodaifpekahaa.make, Go.Proofs.Ytedodaifpekahaa.lifts]; kernel_rfl)
    (of_decide_eq_true (by kernel_rfl)) (by unfold Func.isWrapper; first | (rw [if_pos (by decide +kernel)]; kernel_rfl) | (rw [if_neg (by decide +kernel)]; exact ⟨rfl, rfl⟩))
    (fun os started H enc _ => lifted os started H enc)
theorem proved : Rows.FnExactUnitOkSaid := over
end Go.Proofs.Ytedodaifpekahaa.fnExactUnitOk
namespace Go.Proofs.Ytedodaifpekahaa
theorem fnExactUnitOk_holds : Rows.FnExactUnitOkSaid := fnExactUnitOk.proved
end Go.Proofs.Ytedodaifpekahaa

end
