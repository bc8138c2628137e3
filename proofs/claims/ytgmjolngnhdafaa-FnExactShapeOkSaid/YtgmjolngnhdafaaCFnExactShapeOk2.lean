/- FnExactShapeOk: for all classes, numbers and shapes (of at most 2^20 values together) the program's ShapeOk answers as the reference does and leaves its arguments. -/
import Derived.Test.YtgmjolngnhdafaaCFnExactShapeOk0
import Derived.Test.YtgmjolngnhdafaaCFnExactShapeOk1
import Derived.Test.YtgmjolngnhdafaaWMore
import Derived.Deep.Slices
import Derived.Lib.SmallJoins
import Derived.DataReads
import Derived.WideShapes
import Derived.Test.YtgmjolngnhdafaaRows
import Derived.WalkKit
import Derived.ProofKit
import Derived.OpenShut
import Derived.ShutString
import Derived.ChangeOld
import Derived.Below
import Derived.SizedLaws
section
namespace Go.Proofs.Ytgmjolngnhdafaa.P
open Go.RowKit Go.Proofs.YtgmjolngnhdafaaW.PrintWords Go.Proofs.YtgmjolngnhdafaaW.PrintLast Go.Proofs.YtgmjolngnhdafaaW.PrintMore
attribute [local go_sem] max2_int min2_int max_two min_two max_three min_three max_four min_four
set_option linter.unusedVariables false
set_option linter.unusedSimpArgs false

set_option maxHeartbeats 8000000 in
set_option maxRecDepth 100000 in
theorem laws_FnExactShapeOk.calls (k : Nat) (A0 : Option Addr) (c0 : Nat) (l0 : List (S63)) (a1 : Int) (a2_0 : Bool) (A2_1 : Option Addr) (c2_1 : Nat) (l2_1 : List Int) (A2_2 : Option Addr) (c2_2 : Nat) (l2_2 : List Int) (r : Bool) (w : World) (hr0 : Kd.C k63 w A0 l0.length l0) (hc0 : l0.length ≤ c0) (hr2_1 : Kd.C (Kd.int .i64) w A2_1 l2_1.length l2_1) (hc2_1 : l2_1.length ≤ c2_1) (hr2_2 : Kd.C (Kd.int .i64) w A2_2 l2_2.length l2_2) (hc2_2 : l2_2.length ≤ c2_2) (h : laws_FnExactShapeOk.f k l0 a1 a2_0 l2_1 l2_2 = some r) (hr_ : r = true) :
    Calls Try.prog 15 #[.slice A0 l0.length c0, .int .i64 a1, .agg #[.bool a2_0, .slice A2_1 l2_1.length c2_1, .slice A2_2 l2_2.length c2_2]] w fun e w' => e = .returned (.bool r) ∧ Below w.heap.size w w' := by
  have hu49 := Try.underlying49
  have hu52 := Try.underlying52
  have HR0 := Aside0.mk hr0
  have HC0 := Aside0.mk hc0
  clear hr0 hc0
  have HR2_1 := Aside0.mk hr2_1
  have HC2_1 := Aside0.mk hc2_1
  clear hr2_1 hc2_1
  have HR2_2 := Aside0.mk hr2_2
  have HC2_2 := Aside0.mk hc2_2
  clear hr2_2 hc2_2
  have HB := Aside0.mk (Below.refl w.heap.size w)
  have H : ((laws_szClassS.f k l0 1048576).bind fun t402 => (if t402 < 0 then (some true) else ((laws_szShape.f a2_0 l2_1 l2_2 t402).bind fun t403 => (if t403 < 0 then (some true) else ((laws_toClassS.f k l0).bind fun t404 => ((laws_toShape.f k a2_0 l2_1 l2_2).bind fun bt407 => ((spec_ShapeOk.f k t404 a1 bt407.1 bt407.2.1 bt407.2.2).bind fun t414 => ((laws_toClassS.f k l0).bind fun t415 => ((laws_toShape.f k a2_0 l2_1 l2_2).bind fun bt418 => ((impl_ShapeOk.f k t415 a1 bt418.1 bt418.2.1 bt418.2.2).bind fun t426 => (if (t426 != t414) = true then (some false) else ((laws_toClassS.f k l0).bind fun t427 => ((laws_eqClassS.f k t415 t427).bind fun t430 => (if t430 = true then ((laws_toShape.f k a2_0 l2_1 l2_2).bind fun bt431 => ((laws_eqShape.f k bt418.1 bt418.2.1 bt418.2.2 bt431.1 bt431.2.1 bt431.2.2).bind fun t438 => (if t438 = true then (some true) else (some false)))) else (some false))))))))))))))) = some r := h
  clear h
  replace H := Option.bind_eq_some_iff.mp H
  obtain ⟨t402, A40, H⟩ := H
  replace H : (if t402 < 0 then (some true) else ((laws_szShape.f a2_0 l2_1 l2_2 t402).bind fun t403 => (if t403 < 0 then (some true) else ((laws_toClassS.f k l0).bind fun t404 => ((laws_toShape.f k a2_0 l2_1 l2_2).bind fun bt407 => ((spec_ShapeOk.f k t404 a1 bt407.1 bt407.2.1 bt407.2.2).bind fun t414 => ((laws_toClassS.f k l0).bind fun t415 => ((laws_toShape.f k a2_0 l2_1 l2_2).bind fun bt418 => ((impl_ShapeOk.f k t415 a1 bt418.1 bt418.2.1 bt418.2.2).bind fun t426 => (if (t426 != t414) = true then (some false) else ((laws_toClassS.f k l0).bind fun t427 => ((laws_eqClassS.f k t415 t427).bind fun t430 => (if t430 = true then ((laws_toShape.f k a2_0 l2_1 l2_2).bind fun bt431 => ((laws_eqShape.f k bt418.1 bt418.2.1 bt418.2.2 bt431.1 bt431.2.1 bt431.2.2).bind fun t438 => (if t438 = true then (some true) else (some false)))) else (some false)))))))))))))) = some r := H
  have A4 := Aside0.mk A40
  clear A40
  by_cases c5 : t402 < 0
  · rw [if_pos c5] at H
    have c5b0 : decide (t402 < 0) = true := decide_eq_true c5
    clear c5
    obtain rfl := Option.some.inj H
    simp only [Option.some.injEq, Prod.mk.injEq] at H
    obtain ⟨rfl⟩ := H
    go_enter Try.func15, Try.ntmps15
    go_wp2_with (first | ((with_reducible refine gate_dst (N := 5) rfl ?_); refine box_event ?hg (N := 5) ?hd (cs := #[.bool a2_0, .slice A2_1 l2_1.length c2_1, .slice A2_2 l2_2.length c2_2]) (t := 49) ?hr ?_; (case hd => rfl); (case hg => rfl); (case hr => first | (go_simp; done) | (go_simp; rfl)); intro gb401 hg w6 hbox hb; have n0_ := Aside0.mk (below_step (by repeat (first | (with_reducible first | exact HB.out | apply below_alloc | apply pw_below_drewN | apply below_drew1) | exact HB.out)) hb); have n1_ := Aside0.mk (hbox); have n2_ := Aside0.mk ((by rw [hg]; exact (below_size (by repeat (first | (with_reducible first | exact HB.out | apply below_alloc | apply pw_below_drewN | apply below_drew1) | exact HB.out))) : w.heap.size ≤ gb401)); have n3_ := Aside0.mk ((by rw [hg]; exact (below_size (by repeat (first | (with_reducible first | exact HB.out | apply below_alloc | apply pw_below_drewN | apply below_drew1) | exact HB.out))) : w.heap.size ≤ gb401)); clear HB; have HB := n0_; have BK401 := n1_; have GW401 := n2_; have GE401 := n3_; clear n0_ n1_ n2_ n3_; clear hb hbox hg) | ((with_reducible refine gate_callee (f := 20) rfl ?_); refine goesL_ (some 14) rfl rfl Try.func20 (by kernel_rfl) rfl #[.slice A0 l0.length c0, .int .i64 1048576] rfl (by (try simp only [List.map_toArray, List.map_cons, List.map_nil]); first | done | rfl | (simp only [List.length_drop, List.length_take]; rfl)) ?_; (with_reducible refine (laws_szClassS.calls k _ _ l0 1048576 t402 _ ?side1 ?side2 A4.out).mono ?_); (case side1 => repeat (first | exact (Kd.C_below HR0.out HB.out) | (with_reducible refine Kd.C_alloc ?_ _) | (with_reducible refine Kd.C_drewN ?_ _) | (with_reducible refine Kd.C_drew ?_))); (case side2 => exact HC0.out); rintro e w7 ⟨rfl, hb⟩; refine ⟨_, rfl, ?_⟩; have n0_ := Aside0.mk (blk_below (g := gb401) (o := .cells #[.bool a2_0, .slice A2_1 l2_1.length c2_1, .slice A2_2 l2_2.length c2_2] 49 (0, 0)) (by (with_reducible repeat (first | refine blk_drewN ?_ _ | refine blk_drew ?_ | refine blk_alloc ?_ _)); exact BK401.out) hb); have n1_ := Aside0.mk (below_step (by repeat (first | (with_reducible first | exact HB.out | apply below_alloc | apply pw_below_drewN | apply below_drew1 | refine below_set ?_ GE401.out) | exact HB.out)) hb); clear BK401; clear HB; have BK401 := n0_; have HB := n1_; clear n0_ n1_; (try clear hb); (try clear hb2); (try clear hk); (try clear hi)))
    go_ret
    exact ⟨by first | rfl | (simp [errW_none, errW_some] <;> rfl) | (simp [*, errW_none, errW_some] <;> rfl), by repeat (first | (with_reducible first | exact HB.out | apply below_alloc | apply pw_below_drewN | apply below_drew1 | refine below_set ?_ GE401.out) | exact HB.out)⟩
  · rw [if_neg c5] at H
    have c5b0 : decide (t402 < 0) = false := decide_eq_false c5
    clear c5
    replace H := Option.bind_eq_some_iff.mp H
    obtain ⟨t403, A80, H⟩ := H
    replace H : (if t403 < 0 then (some true) else ((laws_toClassS.f k l0).bind fun t404 => ((laws_toShape.f k a2_0 l2_1 l2_2).bind fun bt407 => ((spec_ShapeOk.f k t404 a1 bt407.1 bt407.2.1 bt407.2.2).bind fun t414 => ((laws_toClassS.f k l0).bind fun t415 => ((laws_toShape.f k a2_0 l2_1 l2_2).bind fun bt418 => ((impl_ShapeOk.f k t415 a1 bt418.1 bt418.2.1 bt418.2.2).bind fun t426 => (if (t426 != t414) = true then (some false) else ((laws_toClassS.f k l0).bind fun t427 => ((laws_eqClassS.f k t415 t427).bind fun t430 => (if t430 = true then ((laws_toShape.f k a2_0 l2_1 l2_2).bind fun bt431 => ((laws_eqShape.f k bt418.1 bt418.2.1 bt418.2.2 bt431.1 bt431.2.1 bt431.2.2).bind fun t438 => (if t438 = true then (some true) else (some false)))) else (some false)))))))))))) = some r := H
    have A8 := Aside0.mk A80
    clear A80
    by_cases c9 : t403 < 0
    · rw [if_pos c9] at H
      have c9b0 : decide (t403 < 0) = true := decide_eq_true c9
      clear c9
      obtain rfl := Option.some.inj H
      simp only [Option.some.injEq, Prod.mk.injEq] at H
      obtain ⟨rfl⟩ := H
      go_enter Try.func15, Try.ntmps15
      go_wp2_with (first | ((with_reducible refine gate_dst (N := 5) rfl ?_); refine box_event ?hg (N := 5) ?hd (cs := #[.bool a2_0, .slice A2_1 l2_1.length c2_1, .slice A2_2 l2_2.length c2_2]) (t := 49) ?hr ?_; (case hd => rfl); (case hg => rfl); (case hr => first | (go_simp; done) | (go_simp; rfl)); intro gb401 hg w10 hbox hb; have n0_ := Aside0.mk (below_step (by repeat (first | (with_reducible first | exact HB.out | apply below_alloc | apply pw_below_drewN | apply below_drew1) | exact HB.out)) hb); have n1_ := Aside0.mk (hbox); have n2_ := Aside0.mk ((by rw [hg]; exact (below_size (by repeat (first | (with_reducible first | exact HB.out | apply below_alloc | apply pw_below_drewN | apply below_drew1) | exact HB.out))) : w.heap.size ≤ gb401)); have n3_ := Aside0.mk ((by rw [hg]; exact (below_size (by repeat (first | (with_reducible first | exact HB.out | apply below_alloc | apply pw_below_drewN | apply below_drew1) | exact HB.out))) : w.heap.size ≤ gb401)); clear HB; have HB := n0_; have BK401 := n1_; have GW401 := n2_; have GE401 := n3_; clear n0_ n1_ n2_ n3_; clear hb hbox hg) | ((with_reducible refine gate_callee (f := 20) rfl ?_); refine goesL_ (some 14) rfl rfl Try.func20 (by kernel_rfl) rfl #[.slice A0 l0.length c0, .int .i64 1048576] rfl (by (try simp only [List.map_toArray, List.map_cons, List.map_nil]); first | done | rfl | (simp only [List.length_drop, List.length_take]; rfl)) ?_; (with_reducible refine (laws_szClassS.calls k _ _ l0 1048576 t402 _ ?side1 ?side2 A4.out).mono ?_); (case side1 => repeat (first | exact (Kd.C_below HR0.out HB.out) | (with_reducible refine Kd.C_alloc ?_ _) | (with_reducible refine Kd.C_drewN ?_ _) | (with_reducible refine Kd.C_drew ?_))); (case side2 => exact HC0.out); rintro e w11 ⟨rfl, hb⟩; refine ⟨_, rfl, ?_⟩; have n0_ := Aside0.mk (blk_below (g := gb401) (o := .cells #[.bool a2_0, .slice A2_1 l2_1.length c2_1, .slice A2_2 l2_2.length c2_2] 49 (0, 0)) (by (with_reducible repeat (first | refine blk_drewN ?_ _ | refine blk_drew ?_ | refine blk_alloc ?_ _)); exact BK401.out) hb); have n1_ := Aside0.mk (below_step (by repeat (first | (with_reducible first | exact HB.out | apply below_alloc | apply pw_below_drewN | apply below_drew1 | refine below_set ?_ GE401.out) | exact HB.out)) hb); clear BK401; clear HB; have BK401 := n0_; have HB := n1_; clear n0_ n1_; (try clear hb); (try clear hb2); (try clear hk); (try clear hi); have hcz12_0 : w11.cell? ⟨gb401, 0, none⟩ = some (.bool a2_0) := (blk_cell BK401.out 0).trans rfl; have hcz12_1 : w11.cell? ⟨gb401, 1, none⟩ = some (.slice A2_1 l2_1.length c2_1) := (blk_cell BK401.out 1).trans rfl; have hcz12_2 : w11.cell? ⟨gb401, 2, none⟩ = some (.slice A2_2 l2_2.length c2_2) := (blk_cell BK401.out 2).trans rfl; have hfz12_0 := blk_frozen BK401.out 0; have hfz12_1 := blk_frozen BK401.out 1; have hfz12_2 := blk_frozen BK401.out 2) | ((with_reducible refine gate_callee (f := 45) rfl ?_); refine goesL_ (some 19) rfl rfl Try.func45 (by kernel_rfl) rfl #[.agg #[.bool a2_0, .slice A2_1 l2_1.length c2_1, .slice A2_2 l2_2.length c2_2], .int .i64 t402] rfl (by (try simp only [List.map_toArray, List.map_cons, List.map_nil]); first | done | rfl | (simp only [List.length_drop, List.length_take]; rfl)) ?_; (with_reducible refine (laws_szShape.calls a2_0 _ _ l2_1 _ _ l2_2 t402 t403 _ ?side1 ?side2 ?side3 ?side4 A8.out).mono ?_); (case side1 => repeat (first | exact (Kd.C_below HR2_1.out HB.out) | (with_reducible refine Kd.C_alloc ?_ _) | (with_reducible refine Kd.C_drewN ?_ _) | (with_reducible refine Kd.C_drew ?_))); (case side2 => exact HC2_1.out); (case side3 => repeat (first | exact (Kd.C_below HR2_2.out HB.out) | (with_reducible refine Kd.C_alloc ?_ _) | (with_reducible refine Kd.C_drewN ?_ _) | (with_reducible refine Kd.C_drew ?_))); (case side4 => exact HC2_2.out); rintro e w13 ⟨rfl, hb⟩; refine ⟨_, rfl, ?_⟩; have n0_ := Aside0.mk (blk_below (g := gb401) (o := .cells #[.bool a2_0, .slice A2_1 l2_1.length c2_1, .slice A2_2 l2_2.length c2_2] 49 (0, 0)) (by (with_reducible repeat (first | refine blk_drewN ?_ _ | refine blk_drew ?_ | refine blk_alloc ?_ _)); exact BK401.out) hb); have n1_ := Aside0.mk (below_step (by repeat (first | (with_reducible first | exact HB.out | apply below_alloc | apply pw_below_drewN | apply below_drew1 | refine below_set ?_ GE401.out) | exact HB.out)) hb); clear BK401; clear HB; have BK401 := n0_; have HB := n1_; clear n0_ n1_; (try clear hb); (try clear hb2); (try clear hk); (try clear hi)))
      go_ret
      exact ⟨by first | rfl | (simp [errW_none, errW_some] <;> rfl) | (simp [*, errW_none, errW_some] <;> rfl), by repeat (first | (with_reducible first | exact HB.out | apply below_alloc | apply pw_below_drewN | apply below_drew1 | refine below_set ?_ GE401.out) | exact HB.out)⟩
    · rw [if_neg c9] at H
      have c9b0 : decide (t403 < 0) = false := decide_eq_false c9
      clear c9
      replace H := Option.bind_eq_some_iff.mp H
      obtain ⟨t404, A140, H⟩ := H
      replace H : ((laws_toShape.f k a2_0 l2_1 l2_2).bind fun bt407 => ((spec_ShapeOk.f k t404 a1 bt407.1 bt407.2.1 bt407.2.2).bind fun t414 => ((laws_toClassS.f k l0).bind fun t415 => ((laws_toShape.f k a2_0 l2_1 l2_2).bind fun bt418 => ((impl_ShapeOk.f k t415 a1 bt418.1 bt418.2.1 bt418.2.2).bind fun t426 => (if (t426 != t414) = true then (some false) else ((laws_toClassS.f k l0).bind fun t427 => ((laws_eqClassS.f k t415 t427).bind fun t430 => (if t430 = true then ((laws_toShape.f k a2_0 l2_1 l2_2).bind fun bt431 => ((laws_eqShape.f k bt418.1 bt418.2.1 bt418.2.2 bt431.1 bt431.2.1 bt431.2.2).bind fun t438 => (if t438 = true then (some true) else (some false)))) else (some false)))))))))) = some r := H
      have A14 := Aside0.mk A140
      clear A140
      replace H := Option.bind_eq_some_iff.mp H
      obtain ⟨⟨t407, t408, t411⟩, A150, H⟩ := H
      replace H : ((spec_ShapeOk.f k t404 a1 t407 t408 t411).bind fun t414 => ((laws_toClassS.f k l0).bind fun t415 => ((laws_toShape.f k a2_0 l2_1 l2_2).bind fun bt418 => ((impl_ShapeOk.f k t415 a1 bt418.1 bt418.2.1 bt418.2.2).bind fun t426 => (if (t426 != t414) = true then (some false) else ((laws_toClassS.f k l0).bind fun t427 => ((laws_eqClassS.f k t415 t427).bind fun t430 => (if t430 = true then ((laws_toShape.f k a2_0 l2_1 l2_2).bind fun bt431 => ((laws_eqShape.f k bt418.1 bt418.2.1 bt418.2.2 bt431.1 bt431.2.1 bt431.2.2).bind fun t438 => (if t438 = true then (some true) else (some false)))) else (some false))))))))) = some r := H
      have A15 := Aside0.mk A150
      clear A150
      replace H := Option.bind_eq_some_iff.mp H
      obtain ⟨t414, A160, H⟩ := H
      replace H : ((laws_toClassS.f k l0).bind fun t415 => ((laws_toShape.f k a2_0 l2_1 l2_2).bind fun bt418 => ((impl_ShapeOk.f k t415 a1 bt418.1 bt418.2.1 bt418.2.2).bind fun t426 => (if (t426 != t414) = true then (some false) else ((laws_toClassS.f k l0).bind fun t427 => ((laws_eqClassS.f k t415 t427).bind fun t430 => (if t430 = true then ((laws_toShape.f k a2_0 l2_1 l2_2).bind fun bt431 => ((laws_eqShape.f k bt418.1 bt418.2.1 bt418.2.2 bt431.1 bt431.2.1 bt431.2.2).bind fun t438 => (if t438 = true then (some true) else (some false)))) else (some false)))))))) = some r := H
      have A16 := Aside0.mk A160
      clear A160
      replace H := Option.bind_eq_some_iff.mp H
      obtain ⟨t415, A170, H⟩ := H
      replace H : ((laws_toShape.f k a2_0 l2_1 l2_2).bind fun bt418 => ((impl_ShapeOk.f k t415 a1 bt418.1 bt418.2.1 bt418.2.2).bind fun t426 => (if (t426 != t414) = true then (some false) else ((laws_toClassS.f k l0).bind fun t427 => ((laws_eqClassS.f k t415 t427).bind fun t430 => (if t430 = true then ((laws_toShape.f k a2_0 l2_1 l2_2).bind fun bt431 => ((laws_eqShape.f k bt418.1 bt418.2.1 bt418.2.2 bt431.1 bt431.2.1 bt431.2.2).bind fun t438 => (if t438 = true then (some true) else (some false)))) else (some false))))))) = some r := H
      have A17 := Aside0.mk A170
      clear A170
      replace H := Option.bind_eq_some_iff.mp H
      obtain ⟨⟨t418, t419, t422⟩, A180, H⟩ := H
      replace H : ((impl_ShapeOk.f k t415 a1 t418 t419 t422).bind fun t426 => (if (t426 != t414) = true then (some false) else ((laws_toClassS.f k l0).bind fun t427 => ((laws_eqClassS.f k t415 t427).bind fun t430 => (if t430 = true then ((laws_toShape.f k a2_0 l2_1 l2_2).bind fun bt431 => ((laws_eqShape.f k t418 t419 t422 bt431.1 bt431.2.1 bt431.2.2).bind fun t438 => (if t438 = true then (some true) else (some false)))) else (some false)))))) = some r := H
      have A18 := Aside0.mk A180
      clear A180
      replace H := Option.bind_eq_some_iff.mp H
      obtain ⟨t426, A190, H⟩ := H
      replace H : (if (t426 != t414) = true then (some false) else ((laws_toClassS.f k l0).bind fun t427 => ((laws_eqClassS.f k t415 t427).bind fun t430 => (if t430 = true then ((laws_toShape.f k a2_0 l2_1 l2_2).bind fun bt431 => ((laws_eqShape.f k t418 t419 t422 bt431.1 bt431.2.1 bt431.2.2).bind fun t438 => (if t438 = true then (some true) else (some false)))) else (some false))))) = some r := H
      have A19 := Aside0.mk A190
      clear A190
      by_cases c20 : (t426 != t414) = true
      · rw [if_pos c20] at H
        have c20b0 : (t426 != t414) = true := c20
        (try (have c20b1 : decide (t426 = t414) = false := by simpa using c20))
        (try (have c20b2 : (t426 == t414) = false := by simpa using c20))
        (try (have c20b3 : ¬ (t426 = t414) := by simpa using c20))
        clear c20
        obtain rfl := Option.some.inj H
        exact absurd hr_ (by decide)
      · rw [if_neg c20] at H
        have c20b0 : (t426 != t414) = false := by simpa using c20
        (try (have c20b1 : decide (t426 = t414) = true := by simpa using c20))
        (try (have c20b2 : (t426 == t414) = true := by simpa using c20))
        clear c20
        replace H := Option.bind_eq_some_iff.mp H
        obtain ⟨t427, A210, H⟩ := H
        replace H : ((laws_eqClassS.f k t415 t427).bind fun t430 => (if t430 = true then ((laws_toShape.f k a2_0 l2_1 l2_2).bind fun bt431 => ((laws_eqShape.f k t418 t419 t422 bt431.1 bt431.2.1 bt431.2.2).bind fun t438 => (if t438 = true then (some true) else (some false)))) else (some false))) = some r := H
        have A21 := Aside0.mk A210
        clear A210
        replace H := Option.bind_eq_some_iff.mp H
        obtain ⟨t430, A220, H⟩ := H
        replace H : (if t430 = true then ((laws_toShape.f k a2_0 l2_1 l2_2).bind fun bt431 => ((laws_eqShape.f k t418 t419 t422 bt431.1 bt431.2.1 bt431.2.2).bind fun t438 => (if t438 = true then (some true) else (some false)))) else (some false)) = some r := H
        have A22 := Aside0.mk A220
        clear A220
        by_cases c23 : t430 = true
        · subst c23
          have H1 : ((laws_toShape.f k a2_0 l2_1 l2_2).bind fun bt431 => ((laws_eqShape.f k t418 t419 t422 bt431.1 bt431.2.1 bt431.2.2).bind fun t438 => (if t438 = true then (some true) else (some false)))) = some r := by rw [if_pos rfl] at H; exact H
          clear H
          have H := H1
          clear H1
          replace H := Option.bind_eq_some_iff.mp H
          obtain ⟨⟨t431, t432, t435⟩, A240, H⟩ := H
          replace H : ((laws_eqShape.f k t418 t419 t422 t431 t432 t435).bind fun t438 => (if t438 = true then (some true) else (some false))) = some r := H
          have A24 := Aside0.mk A240
          clear A240
          replace H := Option.bind_eq_some_iff.mp H
          obtain ⟨t438, A250, H⟩ := H
          replace H : (if t438 = true then (some true) else (some false)) = some r := H
          have A25 := Aside0.mk A250
          clear A250
          by_cases c26 : t438 = true
          · subst c26
            have H1 : (some true) = some r := by rw [if_pos rfl] at H; exact H
            clear H
            have H := H1
            clear H1
            obtain rfl := Option.some.inj H
            simp only [Option.some.injEq, Prod.mk.injEq] at H
            obtain ⟨rfl⟩ := H
            go_enter Try.func15, Try.ntmps15
            try go_wp2_with (first | ((with_reducible refine gate_dst (N := 5) rfl ?_); refine box_event ?hg (N := 5) ?hd (cs := #[.bool a2_0, .slice A2_1 l2_1.length c2_1, .slice A2_2 l2_2.length c2_2]) (t := 49) ?hr ?_; (case hd => rfl); (case hg => rfl); (case hr => first | (go_simp; done) | (go_simp; rfl)); intro gb401 hg w27 hbox hb; have n0_ := Aside0.mk (below_step (by repeat (first | (with_reducible first | exact HB.out | apply below_alloc | apply pw_below_drewN | apply below_drew1) | exact HB.out)) hb); have n1_ := Aside0.mk (hbox); have n2_ := Aside0.mk ((by rw [hg]; exact (below_size (by repeat (first | (with_reducible first | exact HB.out | apply below_alloc | apply pw_below_drewN | apply below_drew1) | exact HB.out))) : w.heap.size ≤ gb401)); have n3_ := Aside0.mk ((by rw [hg]; exact (below_size (by repeat (first | (with_reducible first | exact HB.out | apply below_alloc | apply pw_below_drewN | apply below_drew1) | exact HB.out))) : w.heap.size ≤ gb401)); clear HB; have HB := n0_; have BK401 := n1_; have GW401 := n2_; have GE401 := n3_; clear n0_ n1_ n2_ n3_; clear hb hbox hg) | ((with_reducible refine gate_callee (f := 20) rfl ?_); refine goesL_ (some 14) rfl rfl Try.func20 (by kernel_rfl) rfl #[.slice A0 l0.length c0, .int .i64 1048576] rfl (by (try simp only [List.map_toArray, List.map_cons, List.map_nil]); first | done | rfl | (simp only [List.length_drop, List.length_take]; rfl)) ?_; (with_reducible refine (laws_szClassS.calls k _ _ l0 1048576 t402 _ ?side1 ?side2 A4.out).mono ?_); (case side1 => repeat (first | exact (Kd.C_below HR0.out HB.out) | (with_reducible refine Kd.C_alloc ?_ _) | (with_reducible refine Kd.C_drewN ?_ _) | (with_reducible refine Kd.C_drew ?_))); (case side2 => exact HC0.out); rintro e w28 ⟨rfl, hb⟩; refine ⟨_, rfl, ?_⟩; have n0_ := Aside0.mk (blk_below (g := gb401) (o := .cells #[.bool a2_0, .slice A2_1 l2_1.length c2_1, .slice A2_2 l2_2.length c2_2] 49 (0, 0)) (by (with_reducible repeat (first | refine blk_drewN ?_ _ | refine blk_drew ?_ | refine blk_alloc ?_ _)); exact BK401.out) hb); have n1_ := Aside0.mk (below_step (by repeat (first | (with_reducible first | exact HB.out | apply below_alloc | apply pw_below_drewN | apply below_drew1 | refine below_set ?_ GE401.out) | exact HB.out)) hb); clear BK401; clear HB; have BK401 := n0_; have HB := n1_; clear n0_ n1_; (try clear hb); (try clear hb2); (try clear hk); (try clear hi); have hcz29_0 : w28.cell? ⟨gb401, 0, none⟩ = some (.bool a2_0) := (blk_cell BK401.out 0).trans rfl; have hcz29_1 : w28.cell? ⟨gb401, 1, none⟩ = some (.slice A2_1 l2_1.length c2_1) := (blk_cell BK401.out 1).trans rfl; have hcz29_2 : w28.cell? ⟨gb401, 2, none⟩ = some (.slice A2_2 l2_2.length c2_2) := (blk_cell BK401.out 2).trans rfl; have hfz29_0 := blk_frozen BK401.out 0; have hfz29_1 := blk_frozen BK401.out 1; have hfz29_2 := blk_frozen BK401.out 2) | ((with_reducible refine gate_callee (f := 45) rfl ?_); refine goesL_ (some 19) rfl rfl Try.func45 (by kernel_rfl) rfl #[.agg #[.bool a2_0, .slice A2_1 l2_1.length c2_1, .slice A2_2 l2_2.length c2_2], .int .i64 t402] rfl (by (try simp only [List.map_toArray, List.map_cons, List.map_nil]); first | done | rfl | (simp only [List.length_drop, List.length_take]; rfl)) ?_; (with_reducible refine (laws_szShape.calls a2_0 _ _ l2_1 _ _ l2_2 t402 t403 _ ?side1 ?side2 ?side3 ?side4 A8.out).mono ?_); (case side1 => repeat (first | exact (Kd.C_below HR2_1.out HB.out) | (with_reducible refine Kd.C_alloc ?_ _) | (with_reducible refine Kd.C_drewN ?_ _) | (with_reducible refine Kd.C_drew ?_))); (case side2 => exact HC2_1.out); (case side3 => repeat (first | exact (Kd.C_below HR2_2.out HB.out) | (with_reducible refine Kd.C_alloc ?_ _) | (with_reducible refine Kd.C_drewN ?_ _) | (with_reducible refine Kd.C_drew ?_))); (case side4 => exact HC2_2.out); rintro e w30 ⟨rfl, hb⟩; refine ⟨_, rfl, ?_⟩; have n0_ := Aside0.mk (blk_below (g := gb401) (o := .cells #[.bool a2_0, .slice A2_1 l2_1.length c2_1, .slice A2_2 l2_2.length c2_2] 49 (0, 0)) (by (with_reducible repeat (first | refine blk_drewN ?_ _ | refine blk_drew ?_ | refine blk_alloc ?_ _)); exact BK401.out) hb); have n1_ := Aside0.mk (below_step (by repeat (first | (with_reducible first | exact HB.out | apply below_alloc | apply pw_below_drewN | apply below_drew1 | refine below_set ?_ GE401.out) | exact HB.out)) hb); clear BK401; clear HB; have BK401 := n0_; have HB := n1_; clear n0_ n1_; (try clear hb); (try clear hb2); (try clear hk); (try clear hi)))
            have n0_ := Aside0.mk (blk_drew BK401.out)
            have n1_ := Aside0.mk (below_drew1 HB.out)
            clear BK401
            clear HB
            have BK401 := n0_
            have HB := n1_
            clear n0_ n1_
            refine start_ (n := 7) (S := fun w' => w'.cell? ⟨gb401, 0, none⟩ = some (.bool a2_0) ∧ w'.cell? ⟨gb401, 1, none⟩ = some (.slice A2_1 l2_1.length c2_1) ∧ w'.cell? ⟨gb401, 2, none⟩ = some (.slice A2_2 l2_2.length c2_2)) (ds := []) #[false, false, false, false, false, false, false] (by kernel_rfl) rfl rfl ⟨(blk_cell BK401.out 0).trans rfl, (blk_cell BK401.out 1).trans rfl, (blk_cell BK401.out 2).trans rfl⟩ (fun hHeld => ?_)
            generalize w30.drew = w31 at BK401 HB hHeld ⊢
            refine pure_ (i := 0) (N := some 22) (v := ?_) (a' := ?_) #[true, false, false, false, false, false, false] rfl rfl (by kernel_rfl) (fun _ _ _ h => h) (Or.inl ⟨by rfl, ?_⟩) ?_ ?_
            rotate_left
            · intro w'
              go_simp
              with_reducible rfl
            rotate_left
            · simp only [Act.put, List.setIfInBounds_toArray, List.set_cons_zero, List.set_cons_succ, i64_w, i32_w]
              rfl
            refine pure_ (i := 2) (N := some 24) (v := ?_) (a' := ?_) #[true, false, true, false, false, false, false] rfl rfl (by kernel_rfl) (fun _ _ _ h => h) (Or.inl ⟨by rfl, ?_⟩) ?_ ?_
            rotate_left
            · intro w'
              go_simp
              with_reducible rfl
            rotate_left
            · simp only [Act.put, List.setIfInBounds_toArray, List.set_cons_zero, List.set_cons_succ, i64_w, i32_w]
              rfl
            refine take_ (i := 3) (N := some 25) (v := ?_) (a' := ?_) #[true, false, true, true, false, false, false] rfl rfl (by kernel_rfl) (fun _ _ _ h => h) (Or.inl ⟨by rfl, ?_⟩) hHeld ?_ ?_
            rotate_left
            · rintro w' ⟨s0, s1, s2⟩
              go_simp
              with_reducible rfl
            rotate_left
            · simp only [Act.put, List.setIfInBounds_toArray, List.set_cons_zero, List.set_cons_succ, i64_w, i32_w]
              rfl
            refine one_ (i := 1) (N := some 23) #[true, true, true, true, false, false, false] rfl rfl (by kernel_rfl) (by decide) (fun K hK => ?_)
            refine goes_ Try.func22 (by kernel_rfl) rfl #[.slice A0 l0.length c0] (by rfl) rfl rfl (by (try simp only [List.map_toArray, List.map_cons, List.map_nil]); first | done | rfl | (simp only [List.length_drop, List.length_take]; rfl)) ?_
            with_reducible refine (laws_toClassS.calls k _ _ l0 t404 _ ?side1 ?side2 A14.out).mono ?_
            (case side1 => repeat (first | exact (Kd.C_below HR0.out HB.out) | (with_reducible refine Kd.C_alloc ?_ _) | (with_reducible refine Kd.C_drewN ?_ _) | (with_reducible refine Kd.C_drew ?_)))
            (case side2 => exact HC0.out)
            rintro e w32 ⟨v405, rfl, ho0, hb⟩
            refine ⟨_, rfl, ?_⟩
            have n0_ := Aside0.mk (Kd.S_lower ho0 (below_size (by repeat (first | (with_reducible first | exact HB.out | apply below_alloc | apply pw_below_drewN | apply below_drew1 | refine below_set ?_ GE401.out) | exact HB.out))))
            have n1_ := Aside0.mk (blk_below (g := gb401) (o := .cells #[.bool a2_0, .slice A2_1 l2_1.length c2_1, .slice A2_2 l2_2.length c2_2] 49 (0, 0)) (by (with_reducible repeat (first | refine blk_drewN ?_ _ | refine blk_drew ?_ | refine blk_alloc ?_ _)); exact BK401.out) hb)
            have n2_ := Aside0.mk (below_step (by repeat (first | (with_reducible first | exact HB.out | apply below_alloc | apply pw_below_drewN | apply below_drew1 | refine below_set ?_ GE401.out) | exact HB.out)) hb)
            clear BK401
            clear HB
            have HO406 := n0_
            have BK401 := n1_
            have HB := n2_
            clear n0_ n1_ n2_
            (try clear hb)
            (try clear hb2)
            (try clear hk)
            (try clear hi)
            (try clear ho0)
            refine hK.out _ _ ⟨(blk_cell BK401.out 0).trans rfl, (blk_cell BK401.out 1).trans rfl, (blk_cell BK401.out 2).trans rfl⟩ (fun hHeld => ?_)
            clear hK K
            refine norm_ (a' := ?_) ?_ ?_
            rotate_left
            · show Act.put _ (some 23) _ = _
              simp only [Act.put, List.setIfInBounds_toArray, List.set_cons_zero, List.set_cons_succ, i64_w, i32_w]
              rfl
            refine one_ (i := 4) (N := some 26) #[true, true, true, true, true, false, false] rfl rfl (by kernel_rfl) (by decide) (fun K hK => ?_)
            refine goes_ Try.func47 (by kernel_rfl) rfl #[.agg #[.bool a2_0, .slice A2_1 l2_1.length c2_1, .slice A2_2 l2_2.length c2_2]] (by rfl) rfl rfl (by (try simp only [List.map_toArray, List.map_cons, List.map_nil]); first | done | rfl | (simp only [List.length_drop, List.length_take]; rfl)) ?_
            with_reducible refine (laws_toShape.calls k a2_0 _ _ l2_1 _ _ l2_2 t407 t408 t411 _ ?side1 ?side2 ?side3 ?side4 A15.out).mono ?_
            (case side1 => repeat (first | exact (Kd.C_below HR2_1.out HB.out) | (with_reducible refine Kd.C_alloc ?_ _) | (with_reducible refine Kd.C_drewN ?_ _) | (with_reducible refine Kd.C_drew ?_)))
            (case side2 => exact HC2_1.out)
            (case side3 => repeat (first | exact (Kd.C_below HR2_2.out HB.out) | (with_reducible refine Kd.C_alloc ?_ _) | (with_reducible refine Kd.C_drewN ?_ _) | (with_reducible refine Kd.C_drew ?_)))
            (case side4 => exact HC2_2.out)
            rintro e w33 ⟨v409, v412, rfl, ho0, ho1, hb⟩
            refine ⟨_, rfl, ?_⟩
            have n0_ := Aside0.mk (Kd.S_mono (Kd.S_told (Kd.S_told (Kd.S_old (by (with_reducible repeat (first | apply Kd.S_alloc | apply Kd.S_drewN | apply Kd.S_drew)); exact HO406.out) hb) (Kd.R_base ho0)) (Kd.R_base ho1)) (fun _ h_ => h_.1))
            have n1_ := Aside0.mk (Kd.R_lower ho0 (below_size (by repeat (first | (with_reducible first | exact HB.out | apply below_alloc | apply pw_below_drewN | apply below_drew1 | refine below_set ?_ GE401.out) | exact HB.out))))
            have n2_ := Aside0.mk (Kd.R_lower ho1 (below_size (by repeat (first | (with_reducible first | exact HB.out | apply below_alloc | apply pw_below_drewN | apply below_drew1 | refine below_set ?_ GE401.out) | exact HB.out))))
            have n3_ := Aside0.mk (blk_below (g := gb401) (o := .cells #[.bool a2_0, .slice A2_1 l2_1.length c2_1, .slice A2_2 l2_2.length c2_2] 49 (0, 0)) (by (with_reducible repeat (first | refine blk_drewN ?_ _ | refine blk_drew ?_ | refine blk_alloc ?_ _)); exact BK401.out) hb)
            have n4_ := Aside0.mk (below_step (by repeat (first | (with_reducible first | exact HB.out | apply below_alloc | apply pw_below_drewN | apply below_drew1 | refine below_set ?_ GE401.out) | exact HB.out)) hb)
            clear HO406
            clear BK401
            clear HB
            have HO406 := n0_
            have HO410 := n1_
            have HO413 := n2_
            have BK401 := n3_
            have HB := n4_
            clear n0_ n1_ n2_ n3_ n4_
            (try clear hb)
            (try clear hb2)
            (try clear hk)
            (try clear hi)
            (try clear ho0)
            (try clear ho1)
            obtain ⟨Ao34, co34, eo34⟩ := Kd.S_slice HO406.out
            (first | subst eo34 | (injection eo34 with f1_ f2_ f3_; have f4_ := f1_.symm; have f5_ := f3_.symm; clear f1_ f2_ f3_; subst f4_; subst f5_))
            obtain ⟨Ao35, co35, eo35⟩ := Kd.R_slice HO410.out
            (first | subst eo35 | (injection eo35 with f1_ f2_ f3_; have f4_ := f1_.symm; have f5_ := f3_.symm; clear f1_ f2_ f3_; subst f4_; subst f5_))
            obtain ⟨Ao36, co36, eo36⟩ := Kd.R_slice HO413.out
            (first | subst eo36 | (injection eo36 with f1_ f2_ f3_; have f4_ := f1_.symm; have f5_ := f3_.symm; clear f1_ f2_ f3_; subst f4_; subst f5_))
            refine hK.out _ _ ⟨(blk_cell BK401.out 0).trans rfl, (blk_cell BK401.out 1).trans rfl, (blk_cell BK401.out 2).trans rfl⟩ (fun hHeld => ?_)
            clear hK K
            refine norm_ (a' := ?_) ?_ ?_
            rotate_left
            · show Act.put _ (some 26) _ = _
              simp only [Act.put, List.setIfInBounds_toArray, List.set_cons_zero, List.set_cons_succ, i64_w, i32_w]
              rfl
            refine one_ (i := 5) (N := some 27) #[true, true, true, true, true, true, false] rfl rfl (by kernel_rfl) (by decide) (fun K hK => ?_)
            refine goes_ Try.func46 (by kernel_rfl) rfl #[.slice Ao34 t404.length co34, .int .i64 a1, .agg #[.bool t407, .slice Ao35 t408.length co35, .slice Ao36 t411.length co36]] (by rfl) rfl rfl (by (try simp only [List.map_toArray, List.map_cons, List.map_nil]); first | done | rfl | (simp only [List.length_drop, List.length_take]; rfl)) ?_
            with_reducible refine (spec_ShapeOk.calls k _ _ t404 a1 t407 _ _ t408 _ _ t411 t414 _ ?side1 ?side2 ?side3 ?side4 ?side5 ?side6 A16.out).mono ?_
            (case side1 => repeat (first | exact (Kd.S_reads' HO406.out).2.2 | (with_reducible refine Kd.C_alloc ?_ _) | (with_reducible refine Kd.C_drewN ?_ _) | (with_reducible refine Kd.C_drew ?_)))
            (case side2 => exact (Kd.S_reads' HO406.out).2.1)
            (case side3 => repeat (first | exact (Kd.R_reads' HO410.out).2.2 | (with_reducible refine Kd.C_alloc ?_ _) | (with_reducible refine Kd.C_drewN ?_ _) | (with_reducible refine Kd.C_drew ?_)))
            (case side4 => exact (Kd.R_reads' HO410.out).2.1)
            (case side5 => repeat (first | exact (Kd.R_reads' HO413.out).2.2 | (with_reducible refine Kd.C_alloc ?_ _) | (with_reducible refine Kd.C_drewN ?_ _) | (with_reducible refine Kd.C_drew ?_)))
            (case side6 => exact (Kd.R_reads' HO413.out).2.1)
            rintro e w37 ⟨rfl, hb⟩
            refine ⟨_, rfl, ?_⟩
            have n0_ := Aside0.mk (Kd.S_below (by (with_reducible repeat (first | apply Kd.S_alloc | apply Kd.S_drewN | apply Kd.S_drew)); exact HO406.out) hb)
            have n1_ := Aside0.mk (Kd.R_below (by (with_reducible repeat (first | apply Kd.R_alloc | apply Kd.R_drewN | apply Kd.R_drew)); exact HO410.out) hb)
            have n2_ := Aside0.mk (Kd.R_below (by (with_reducible repeat (first | apply Kd.R_alloc | apply Kd.R_drewN | apply Kd.R_drew)); exact HO413.out) hb)
            have n3_ := Aside0.mk (blk_below (g := gb401) (o := .cells #[.bool a2_0, .slice A2_1 l2_1.length c2_1, .slice A2_2 l2_2.length c2_2] 49 (0, 0)) (by (with_reducible repeat (first | refine blk_drewN ?_ _ | refine blk_drew ?_ | refine blk_alloc ?_ _)); exact BK401.out) hb)
            have n4_ := Aside0.mk (below_step (by repeat (first | (with_reducible first | exact HB.out | apply below_alloc | apply pw_below_drewN | apply below_drew1 | refine below_set ?_ GE401.out) | exact HB.out)) hb)
            clear HO406
            clear HO410
            clear HO413
            clear BK401
            clear HB
            have HO406 := n0_
            have HO410 := n1_
            have HO413 := n2_
            have BK401 := n3_
            have HB := n4_
            clear n0_ n1_ n2_ n3_ n4_
            (try clear hb)
            (try clear hb2)
            (try clear hk)
            (try clear hi)
            refine hK.out _ _ ⟨(blk_cell BK401.out 0).trans rfl, (blk_cell BK401.out 1).trans rfl, (blk_cell BK401.out 2).trans rfl⟩ (fun hHeld => ?_)
            clear hK K
            refine norm_ (a' := ?_) ?_ ?_
            rotate_left
            · show Act.put _ (some 27) _ = _
              simp only [Act.put, List.setIfInBounds_toArray, List.set_cons_zero, List.set_cons_succ, i64_w, i32_w]
              rfl
            refine pure_ (i := 6) (N := some 8) (v := ?_) (a' := ?_) #[true, true, true, true, true, true, true] rfl rfl (by kernel_rfl) (fun _ _ _ h => h) (Or.inl ⟨by rfl, ?_⟩) ?_ ?_
            rotate_left
            · intro w'
              go_simp
              with_reducible rfl
            rotate_left
            · simp only [Act.put, List.setIfInBounds_toArray, List.set_cons_zero, List.set_cons_succ, i64_w, i32_w]
              rfl
            refine done_ (by kernel_rfl) ?_
            try go_wp2_with (first | ((with_reducible refine gate_callee (f := 22) rfl ?_); refine goesL_ (some 29) rfl rfl Try.func22 (by kernel_rfl) rfl #[.slice A0 l0.length c0] rfl (by (try simp only [List.map_toArray, List.map_cons, List.map_nil]); first | done | rfl | (simp only [List.length_drop, List.length_take]; rfl)) ?_; (with_reducible refine (laws_toClassS.calls k _ _ l0 t415 _ ?side1 ?side2 A17.out).mono ?_); (case side1 => repeat (first | exact (Kd.C_below HR0.out HB.out) | (with_reducible refine Kd.C_alloc ?_ _) | (with_reducible refine Kd.C_drewN ?_ _) | (with_reducible refine Kd.C_drew ?_))); (case side2 => exact HC0.out); rintro e w38 ⟨v416, rfl, ho0, hb⟩; refine ⟨_, rfl, ?_⟩; have n0_ := Aside0.mk (Kd.S_elder' (by (with_reducible repeat (first | apply Kd.S_alloc | apply Kd.S_drewN | apply Kd.S_drew)); exact HO406.out) (Kd.S_base ho0) hb); have n1_ := Aside0.mk (Kd.R_below (by (with_reducible repeat (first | apply Kd.R_alloc | apply Kd.R_drewN | apply Kd.R_drew)); exact HO410.out) hb); have n2_ := Aside0.mk (Kd.R_below (by (with_reducible repeat (first | apply Kd.R_alloc | apply Kd.R_drewN | apply Kd.R_drew)); exact HO413.out) hb); have n3_ := Aside0.mk (Kd.S_lower (Kd.S_new' (Kd.S_new' (Kd.S_new' ho0 (Kd.S_lt (by (with_reducible repeat (first | apply Kd.S_alloc | apply Kd.S_drewN | apply Kd.S_drew)); exact HO406.out))) (Kd.R_lt (by (with_reducible repeat (first | apply Kd.R_alloc | apply Kd.R_drewN | apply Kd.R_drew)); exact HO410.out))) (Kd.R_lt (by (with_reducible repeat (first | apply Kd.R_alloc | apply Kd.R_drewN | apply Kd.R_drew)); exact HO413.out))) (below_size (by repeat (first | (with_reducible first | exact HB.out | apply below_alloc | apply pw_below_drewN | apply below_drew1 | refine below_set ?_ GE401.out) | exact HB.out)))); have n4_ := Aside0.mk (blk_below (g := gb401) (o := .cells #[.bool a2_0, .slice A2_1 l2_1.length c2_1, .slice A2_2 l2_2.length c2_2] 49 (0, 0)) (by (with_reducible repeat (first | refine blk_drewN ?_ _ | refine blk_drew ?_ | refine blk_alloc ?_ _)); exact BK401.out) hb); have n5_ := Aside0.mk (below_step (by repeat (first | (with_reducible first | exact HB.out | apply below_alloc | apply pw_below_drewN | apply below_drew1 | refine below_set ?_ GE401.out) | exact HB.out)) hb); clear HO406; clear HO410; clear HO413; clear BK401; clear HB; have HO406 := n0_; have HO410 := n1_; have HO413 := n2_; have HO417 := n3_; have BK401 := n4_; have HB := n5_; clear n0_ n1_ n2_ n3_ n4_ n5_; (try clear hb); (try clear hb2); (try clear hk); (try clear hi); (try clear ho0); have hcz39_0 : w38.cell? ⟨gb401, 0, none⟩ = some (.bool a2_0) := (blk_cell BK401.out 0).trans rfl; have hcz39_1 : w38.cell? ⟨gb401, 1, none⟩ = some (.slice A2_1 l2_1.length c2_1) := (blk_cell BK401.out 1).trans rfl; have hcz39_2 : w38.cell? ⟨gb401, 2, none⟩ = some (.slice A2_2 l2_2.length c2_2) := (blk_cell BK401.out 2).trans rfl; have hfz39_0 := blk_frozen BK401.out 0; have hfz39_1 := blk_frozen BK401.out 1; have hfz39_2 := blk_frozen BK401.out 2) | ((with_reducible refine gate_callee (f := 47) rfl ?_); refine goesL_ (some 31) rfl rfl Try.func47 (by kernel_rfl) rfl #[.agg #[.bool a2_0, .slice A2_1 l2_1.length c2_1, .slice A2_2 l2_2.length c2_2]] rfl (by (try simp only [List.map_toArray, List.map_cons, List.map_nil]); first | done | rfl | (simp only [List.length_drop, List.length_take]; rfl)) ?_; (with_reducible refine (laws_toShape.calls k a2_0 _ _ l2_1 _ _ l2_2 t418 t419 t422 _ ?side1 ?side2 ?side3 ?side4 A18.out).mono ?_); (case side1 => repeat (first | exact (Kd.C_below HR2_1.out HB.out) | (with_reducible refine Kd.C_alloc ?_ _) | (with_reducible refine Kd.C_drewN ?_ _) | (with_reducible refine Kd.C_drew ?_))); (case side2 => exact HC2_1.out); (case side3 => repeat (first | exact (Kd.C_below HR2_2.out HB.out) | (with_reducible refine Kd.C_alloc ?_ _) | (with_reducible refine Kd.C_drewN ?_ _) | (with_reducible refine Kd.C_drew ?_))); (case side4 => exact HC2_2.out); rintro e w40 ⟨v420, v423, rfl, ho0, ho1, hb⟩; refine ⟨_, rfl, ?_⟩; have n0_ := Aside0.mk (Kd.S_mono (Kd.S_told (Kd.S_told (Kd.S_old (by (with_reducible repeat (first | apply Kd.S_alloc | apply Kd.S_drewN | apply Kd.S_drew)); exact HO406.out) hb) (Kd.R_base ho0)) (Kd.R_base ho1)) (fun _ h_ => h_.1)); have n1_ := Aside0.mk (Kd.R_mono (Kd.R_told (Kd.R_told (Kd.R_old (by (with_reducible repeat (first | apply Kd.R_alloc | apply Kd.R_drewN | apply Kd.R_drew)); exact HO410.out) hb) (Kd.R_base ho0)) (Kd.R_base ho1)) (fun _ h_ => h_.1)); have n2_ := Aside0.mk (Kd.R_mono (Kd.R_told (Kd.R_told (Kd.R_old (by (with_reducible repeat (first | apply Kd.R_alloc | apply Kd.R_drewN | apply Kd.R_drew)); exact HO413.out) hb) (Kd.R_base ho0)) (Kd.R_base ho1)) (fun _ h_ => h_.1)); have n3_ := Aside0.mk (Kd.S_mono (Kd.S_told (Kd.S_told (Kd.S_old (by (with_reducible repeat (first | apply Kd.S_alloc | apply Kd.S_drewN | apply Kd.S_drew)); exact HO417.out) hb) (Kd.R_base ho0)) (Kd.R_base ho1)) (fun _ h_ => h_.1)); have n4_ := Aside0.mk (Kd.R_lower (Kd.R_new' (Kd.R_new' ho0 (Kd.R_lt (by (with_reducible repeat (first | apply Kd.R_alloc | apply Kd.R_drewN | apply Kd.R_drew)); exact HO410.out))) (Kd.R_lt (by (with_reducible repeat (first | apply Kd.R_alloc | apply Kd.R_drewN | apply Kd.R_drew)); exact HO413.out))) (below_size (by repeat (first | (with_reducible first | exact HB.out | apply below_alloc | apply pw_below_drewN | apply below_drew1 | refine below_set ?_ GE401.out) | exact HB.out)))); have n5_ := Aside0.mk (Kd.R_lower (Kd.R_new' (Kd.R_new' ho1 (Kd.R_lt (by (with_reducible repeat (first | apply Kd.R_alloc | apply Kd.R_drewN | apply Kd.R_drew)); exact HO410.out))) (Kd.R_lt (by (with_reducible repeat (first | apply Kd.R_alloc | apply Kd.R_drewN | apply Kd.R_drew)); exact HO413.out))) (below_size (by repeat (first | (with_reducible first | exact HB.out | apply below_alloc | apply pw_below_drewN | apply below_drew1 | refine below_set ?_ GE401.out) | exact HB.out)))); have n6_ := Aside0.mk (blk_below (g := gb401) (o := .cells #[.bool a2_0, .slice A2_1 l2_1.length c2_1, .slice A2_2 l2_2.length c2_2] 49 (0, 0)) (by (with_reducible repeat (first | refine blk_drewN ?_ _ | refine blk_drew ?_ | refine blk_alloc ?_ _)); exact BK401.out) hb); have n7_ := Aside0.mk (below_step (by repeat (first | (with_reducible first | exact HB.out | apply below_alloc | apply pw_below_drewN | apply below_drew1 | refine below_set ?_ GE401.out) | exact HB.out)) hb); clear HO406; clear HO410; clear HO413; clear HO417; clear BK401; clear HB; have HO406 := n0_; have HO410 := n1_; have HO413 := n2_; have HO417 := n3_; have HO421 := n4_; have HO424 := n5_; have BK401 := n6_; have HB := n7_; clear n0_ n1_ n2_ n3_ n4_ n5_ n6_ n7_; (try clear hb); (try clear hb2); (try clear hk); (try clear hi); (try clear ho0); (try clear ho1)) | ((with_reducible refine gate_dst (N := 10) rfl ?_); refine box_event ?hg (N := 10) ?hd (cs := #[.bool false, .slice none 0 0, .slice none 0 0]) (t := 52) ?hr ?_; (case hd => rfl); (case hg => rfl); (case hr => first | (go_simp; done) | (go_simp; rfl)); intro gb425 hg w41 hbox hb; have n0_ := Aside0.mk (Kd.S_below (by (with_reducible repeat (first | apply Kd.S_alloc | apply Kd.S_drewN | apply Kd.S_drew)); exact HO406.out) hb); have n1_ := Aside0.mk (Kd.R_below (by (with_reducible repeat (first | apply Kd.R_alloc | apply Kd.R_drewN | apply Kd.R_drew)); exact HO410.out) hb); have n2_ := Aside0.mk (Kd.R_below (by (with_reducible repeat (first | apply Kd.R_alloc | apply Kd.R_drewN | apply Kd.R_drew)); exact HO413.out) hb); have n3_ := Aside0.mk (Kd.S_below (by (with_reducible repeat (first | apply Kd.S_alloc | apply Kd.S_drewN | apply Kd.S_drew)); exact HO417.out) hb); have n4_ := Aside0.mk (Kd.R_below (by (with_reducible repeat (first | apply Kd.R_alloc | apply Kd.R_drewN | apply Kd.R_drew)); exact HO421.out) hb); have n5_ := Aside0.mk (Kd.R_below (by (with_reducible repeat (first | apply Kd.R_alloc | apply Kd.R_drewN | apply Kd.R_drew)); exact HO424.out) hb); have n6_ := Aside0.mk (blk_below (g := gb401) (o := .cells #[.bool a2_0, .slice A2_1 l2_1.length c2_1, .slice A2_2 l2_2.length c2_2] 49 (0, 0)) (by (with_reducible repeat (first | refine blk_drewN ?_ _ | refine blk_drew ?_ | refine blk_alloc ?_ _)); exact BK401.out) hb); have n7_ := Aside0.mk (below_step (by repeat (first | (with_reducible first | exact HB.out | apply below_alloc | apply pw_below_drewN | apply below_drew1 | refine below_set ?_ GE401.out) | exact HB.out)) hb); have n8_ := Aside0.mk (hbox); have n9_ := Aside0.mk ((by rw [hg]; exact (below_size (by repeat (first | (with_reducible first | exact HB.out | apply below_alloc | apply pw_below_drewN | apply below_drew1 | refine below_set ?_ GE401.out) | exact HB.out))) : w.heap.size ≤ gb425)); have n10_ := Aside0.mk ((by rw [hg]; exact (below_size (by repeat (first | (with_reducible first | exact HB.out | apply below_alloc | apply pw_below_drewN | apply below_drew1 | refine below_set ?_ GE401.out) | exact HB.out))) : w.heap.size ≤ gb425)); have n11_ := Aside0.mk ((by rw [hg]; exact Nat.ne_of_lt (blk_lt (g := gb401) (o := .cells #[.bool a2_0, .slice A2_1 l2_1.length c2_1, .slice A2_2 l2_2.length c2_2] 49 (0, 0)) (by (with_reducible repeat (first | refine blk_drewN ?_ _ | refine blk_drew ?_ | refine blk_alloc ?_ _)); exact BK401.out)) : gb401 ≠ gb425)); have n12_ := Aside0.mk ((by rw [hg]; exact Nat.ne_of_gt (blk_lt (g := gb401) (o := .cells #[.bool a2_0, .slice A2_1 l2_1.length c2_1, .slice A2_2 l2_2.length c2_2] 49 (0, 0)) (by (with_reducible repeat (first | refine blk_drewN ?_ _ | refine blk_drew ?_ | refine blk_alloc ?_ _)); exact BK401.out)) : gb425 ≠ gb401)); clear HO406; clear HO410; clear HO413; clear HO417; clear HO421; clear HO424; clear BK401; clear HB; have HO406 := n0_; have HO410 := n1_; have HO413 := n2_; have HO417 := n3_; have HO421 := n4_; have HO424 := n5_; have BK401 := n6_; have HB := n7_; have BK425 := n8_; have GW425 := n9_; have GE425 := n10_; have NB401_425 := n11_; have NB425_401 := n12_; clear n0_ n1_ n2_ n3_ n4_ n5_ n6_ n7_ n8_ n9_ n10_ n11_ n12_; clear hb hbox hg; have hnb42 := NB425_401.out; have hnc42 := NB401_425.out; have hcz43_0 : w41.cell? ⟨gb425, 0, none⟩ = some (.bool false) := (blk_cell BK425.out 0).trans rfl; have hcz43_1 : w41.cell? ⟨gb425, 1, none⟩ = some (.slice none 0 0) := (blk_cell BK425.out 1).trans rfl; have hcz43_2 : w41.cell? ⟨gb425, 2, none⟩ = some (.slice none 0 0) := (blk_cell BK425.out 2).trans rfl; have hfz43_0 := blk_frozen BK425.out 0; have hfz43_1 := blk_frozen BK425.out 1; have hfz43_2 := blk_frozen BK425.out 2; obtain ⟨Ao44, co44, eo44⟩ := Kd.R_slice HO421.out; subst eo44; obtain ⟨Ao45, co45, eo45⟩ := Kd.R_slice HO424.out; subst eo45; obtain ⟨Ao46, co46, eo46⟩ := Kd.S_slice HO417.out; subst eo46) | ((with_reducible refine gate_callee (f := 48) rfl ?_); refine goesL_ (some 35) rfl rfl Try.func48 (by kernel_rfl) rfl #[.slice Ao46 t415.length co46, .int .i64 a1, .agg #[.bool t418, .slice Ao44 t419.length co44, .slice Ao45 t422.length co45]] rfl (by (try simp only [List.map_toArray, List.map_cons, List.map_nil]); first | done | rfl | (simp only [List.length_drop, List.length_take]; rfl)) ?_; (with_reducible refine (impl_ShapeOk.calls k _ _ t415 a1 t418 _ _ t419 _ _ t422 t426 _ ?side1 ?side2 ?side3 ?side4 ?side5 ?side6 A19.out).mono ?_); (case side1 => refine (Kd.S_reads' (e := 38) (base := w.heap.size) (ok := fun k_ => (((((True ∧ some k_ ≠ (.slice Ao34 t404.length co34 : Value).ownBlock) ∧ some k_ ≠ (.slice Ao35 t408.length co35 : Value).ownBlock) ∧ some k_ ≠ (.slice Ao36 t411.length co36 : Value).ownBlock) ∧ some k_ ≠ (.slice Ao44 t419.length co44 : Value).ownBlock) ∧ some k_ ≠ (.slice Ao45 t422.length co45 : Value).ownBlock)) (n := t415.length) (c := co46) ?_).2.2; exact (by (with_reducible repeat (first | apply Kd.S_alloc | apply Kd.S_drewN | apply Kd.S_drew)); exact (Kd.S_mono (Kd.S_far (p := ⟨gb425, 2, none⟩) (Kd.S_far (p := ⟨gb425, 1, none⟩) (Kd.S_far (p := ⟨gb425, 0, none⟩) (Kd.S_types HO417.out BK425.out (by decide)) (fun _ hk => hk.2) (.bool t418)) (fun _ hk => hk.2) (.slice Ao44 t419.length co44)) (fun _ hk => hk.2) (.slice Ao45 t422.length co45)) (fun _ h_ => h_.1)))); (case side2 => exact (Kd.S_reads' HO417.out).2.1); (case side3 => refine (Kd.R_reads' (e := 3) (base := w.heap.size) (ok := fun k_ => ((some k_ ≠ (.slice Ao45 t422.length co45 : Value).ownBlock ∧ some k_ ≠ (.slice Ao35 t408.length co35 : Value).ownBlock) ∧ some k_ ≠ (.slice Ao36 t411.length co36 : Value).ownBlock)) (n := t419.length) (c := co44) ?_).2.2; exact (by (with_reducible repeat (first | apply Kd.R_alloc | apply Kd.R_drewN | apply Kd.R_drew)); exact (Kd.R_mono (Kd.R_far (p := ⟨gb425, 2, none⟩) (Kd.R_far (p := ⟨gb425, 1, none⟩) (Kd.R_far (p := ⟨gb425, 0, none⟩) (Kd.R_types HO421.out BK425.out (by decide)) (fun _ hk => hk.2) (.bool t418)) (fun _ hk => hk.2) (.slice Ao44 t419.length co44)) (fun _ hk => hk.2) (.slice Ao45 t422.length co45)) (fun _ h_ => h_.1)))); (case side4 => exact (Kd.R_reads' HO421.out).2.1); (case side5 => refine (Kd.R_reads' (e := 3) (base := w.heap.size) (ok := fun k_ => ((some k_ ≠ (.slice Ao44 t419.length co44 : Value).ownBlock ∧ some k_ ≠ (.slice Ao35 t408.length co35 : Value).ownBlock) ∧ some k_ ≠ (.slice Ao36 t411.length co36 : Value).ownBlock)) (n := t422.length) (c := co45) ?_).2.2; exact (by (with_reducible repeat (first | apply Kd.R_alloc | apply Kd.R_drewN | apply Kd.R_drew)); exact (Kd.R_mono (Kd.R_far (p := ⟨gb425, 2, none⟩) (Kd.R_far (p := ⟨gb425, 1, none⟩) (Kd.R_far (p := ⟨gb425, 0, none⟩) (Kd.R_types HO424.out BK425.out (by decide)) (fun _ hk => hk.2) (.bool t418)) (fun _ hk => hk.2) (.slice Ao44 t419.length co44)) (fun _ hk => hk.2) (.slice Ao45 t422.length co45)) (fun _ h_ => h_.1)))); (case side6 => exact (Kd.R_reads' HO424.out).2.1); rintro e w47 ⟨rfl, hb⟩; refine ⟨_, rfl, ?_⟩; have n0_ := Aside0.mk (Kd.S_below (by (with_reducible repeat (first | apply Kd.S_alloc | apply Kd.S_drewN | apply Kd.S_drew)); exact (Kd.S_mono (Kd.S_far (p := ⟨gb425, 2, none⟩) (Kd.S_far (p := ⟨gb425, 1, none⟩) (Kd.S_far (p := ⟨gb425, 0, none⟩) (Kd.S_types HO406.out BK425.out (by decide)) (fun _ hk => hk.2) (.bool t418)) (fun _ hk => hk.2) (.slice Ao44 t419.length co44)) (fun _ hk => hk.2) (.slice Ao45 t422.length co45)) (fun _ h_ => h_.1))) hb); have n1_ := Aside0.mk (Kd.R_below (by (with_reducible repeat (first | apply Kd.R_alloc | apply Kd.R_drewN | apply Kd.R_drew)); exact (Kd.R_mono (Kd.R_far (p := ⟨gb425, 2, none⟩) (Kd.R_far (p := ⟨gb425, 1, none⟩) (Kd.R_far (p := ⟨gb425, 0, none⟩) (Kd.R_types HO410.out BK425.out (by decide)) (fun _ hk => hk.2) (.bool t418)) (fun _ hk => hk.2) (.slice Ao44 t419.length co44)) (fun _ hk => hk.2) (.slice Ao45 t422.length co45)) (fun _ h_ => h_.1))) hb); have n2_ := Aside0.mk (Kd.R_below (by (with_reducible repeat (first | apply Kd.R_alloc | apply Kd.R_drewN | apply Kd.R_drew)); exact (Kd.R_mono (Kd.R_far (p := ⟨gb425, 2, none⟩) (Kd.R_far (p := ⟨gb425, 1, none⟩) (Kd.R_far (p := ⟨gb425, 0, none⟩) (Kd.R_types HO413.out BK425.out (by decide)) (fun _ hk => hk.2) (.bool t418)) (fun _ hk => hk.2) (.slice Ao44 t419.length co44)) (fun _ hk => hk.2) (.slice Ao45 t422.length co45)) (fun _ h_ => h_.1))) hb); have n3_ := Aside0.mk (Kd.S_below (by (with_reducible repeat (first | apply Kd.S_alloc | apply Kd.S_drewN | apply Kd.S_drew)); exact (Kd.S_mono (Kd.S_far (p := ⟨gb425, 2, none⟩) (Kd.S_far (p := ⟨gb425, 1, none⟩) (Kd.S_far (p := ⟨gb425, 0, none⟩) (Kd.S_types HO417.out BK425.out (by decide)) (fun _ hk => hk.2) (.bool t418)) (fun _ hk => hk.2) (.slice Ao44 t419.length co44)) (fun _ hk => hk.2) (.slice Ao45 t422.length co45)) (fun _ h_ => h_.1))) hb); have n4_ := Aside0.mk (Kd.R_below (by (with_reducible repeat (first | apply Kd.R_alloc | apply Kd.R_drewN | apply Kd.R_drew)); exact (Kd.R_mono (Kd.R_far (p := ⟨gb425, 2, none⟩) (Kd.R_far (p := ⟨gb425, 1, none⟩) (Kd.R_far (p := ⟨gb425, 0, none⟩) (Kd.R_types HO421.out BK425.out (by decide)) (fun _ hk => hk.2) (.bool t418)) (fun _ hk => hk.2) (.slice Ao44 t419.length co44)) (fun _ hk => hk.2) (.slice Ao45 t422.length co45)) (fun _ h_ => h_.1))) hb); have n5_ := Aside0.mk (Kd.R_below (by (with_reducible repeat (first | apply Kd.R_alloc | apply Kd.R_drewN | apply Kd.R_drew)); exact (Kd.R_mono (Kd.R_far (p := ⟨gb425, 2, none⟩) (Kd.R_far (p := ⟨gb425, 1, none⟩) (Kd.R_far (p := ⟨gb425, 0, none⟩) (Kd.R_types HO424.out BK425.out (by decide)) (fun _ hk => hk.2) (.bool t418)) (fun _ hk => hk.2) (.slice Ao44 t419.length co44)) (fun _ hk => hk.2) (.slice Ao45 t422.length co45)) (fun _ h_ => h_.1))) hb); have n6_ := Aside0.mk (blk_below (g := gb401) (o := .cells #[.bool a2_0, .slice A2_1 l2_1.length c2_1, .slice A2_2 l2_2.length c2_2] 49 (0, 0)) (by (with_reducible repeat (first | refine blk_drewN ?_ _ | refine blk_drew ?_ | refine blk_alloc ?_ _)); refine blk_far ?_ NB401_425.out _; (with_reducible repeat (first | refine blk_drewN ?_ _ | refine blk_drew ?_ | refine blk_alloc ?_ _)); refine blk_far ?_ NB401_425.out _; (with_reducible repeat (first | refine blk_drewN ?_ _ | refine blk_drew ?_ | refine blk_alloc ?_ _)); refine blk_far ?_ NB401_425.out _; (with_reducible repeat (first | refine blk_drewN ?_ _ | refine blk_drew ?_ | refine blk_alloc ?_ _)); exact BK401.out) hb); have n7_ := Aside0.mk (blk_below (g := gb425) (o := .cells #[.bool t418, .slice Ao44 t419.length co44, .slice Ao45 t422.length co45] 52 (0, 0)) (by (with_reducible repeat (first | refine blk_drewN ?_ _ | refine blk_drew ?_ | refine blk_alloc ?_ _)); refine blk_put (cs := #[.bool t418, .slice Ao44 t419.length co44, .slice none 0 0]) ?_ 2 _ rfl; (with_reducible repeat (first | refine blk_drewN ?_ _ | refine blk_drew ?_ | refine blk_alloc ?_ _)); refine blk_put (cs := #[.bool t418, .slice none 0 0, .slice none 0 0]) ?_ 1 _ rfl; (with_reducible repeat (first | refine blk_drewN ?_ _ | refine blk_drew ?_ | refine blk_alloc ?_ _)); refine blk_put (cs := #[.bool false, .slice none 0 0, .slice none 0 0]) ?_ 0 _ rfl; (with_reducible repeat (first | refine blk_drewN ?_ _ | refine blk_drew ?_ | refine blk_alloc ?_ _)); exact BK425.out) hb); have n8_ := Aside0.mk (below_step (by repeat (first | (with_reducible first | exact HB.out | apply below_alloc | apply pw_below_drewN | apply below_drew1 | refine below_set ?_ GE401.out | refine below_set ?_ GE425.out) | exact HB.out)) hb); clear HO406; clear HO410; clear HO413; clear HO417; clear HO421; clear HO424; clear BK401; clear BK425; clear HB; have HO406 := n0_; have HO410 := n1_; have HO413 := n2_; have HO417 := n3_; have HO421 := n4_; have HO424 := n5_; have BK401 := n6_; have BK425 := n7_; have HB := n8_; clear n0_ n1_ n2_ n3_ n4_ n5_ n6_ n7_ n8_; (try clear hb); (try clear hb2); (try clear hk); (try clear hi)) | ((with_reducible refine gate_callee (f := 22) rfl ?_); refine goesL_ (some 41) rfl rfl Try.func22 (by kernel_rfl) rfl #[.slice A0 l0.length c0] rfl (by (try simp only [List.map_toArray, List.map_cons, List.map_nil]); first | done | rfl | (simp only [List.length_drop, List.length_take]; rfl)) ?_; (with_reducible refine (laws_toClassS.calls k _ _ l0 t427 _ ?side1 ?side2 A21.out).mono ?_); (case side1 => repeat (first | exact (Kd.C_below HR0.out HB.out) | (with_reducible refine Kd.C_alloc ?_ _) | (with_reducible refine Kd.C_drewN ?_ _) | (with_reducible refine Kd.C_drew ?_))); (case side2 => exact HC0.out); rintro e w48 ⟨v428, rfl, ho0, hb⟩; refine ⟨_, rfl, ?_⟩; have n0_ := Aside0.mk (Kd.S_elder' (by (with_reducible repeat (first | apply Kd.S_alloc | apply Kd.S_drewN | apply Kd.S_drew)); exact HO406.out) (Kd.S_base ho0) hb); have n1_ := Aside0.mk (Kd.R_below (by (with_reducible repeat (first | apply Kd.R_alloc | apply Kd.R_drewN | apply Kd.R_drew)); exact HO410.out) hb); have n2_ := Aside0.mk (Kd.R_below (by (with_reducible repeat (first | apply Kd.R_alloc | apply Kd.R_drewN | apply Kd.R_drew)); exact HO413.out) hb); have n3_ := Aside0.mk (Kd.S_elder' (by (with_reducible repeat (first | apply Kd.S_alloc | apply Kd.S_drewN | apply Kd.S_drew)); exact HO417.out) (Kd.S_base ho0) hb); have n4_ := Aside0.mk (Kd.R_below (by (with_reducible repeat (first | apply Kd.R_alloc | apply Kd.R_drewN | apply Kd.R_drew)); exact HO421.out) hb); have n5_ := Aside0.mk (Kd.R_below (by (with_reducible repeat (first | apply Kd.R_alloc | apply Kd.R_drewN | apply Kd.R_drew)); exact HO424.out) hb); have n6_ := Aside0.mk (Kd.S_lower (Kd.S_new' (Kd.S_new' (Kd.S_new' (Kd.S_new' (Kd.S_new' (Kd.S_new' ho0 (Kd.S_lt (by (with_reducible repeat (first | apply Kd.S_alloc | apply Kd.S_drewN | apply Kd.S_drew)); exact HO406.out))) (Kd.R_lt (by (with_reducible repeat (first | apply Kd.R_alloc | apply Kd.R_drewN | apply Kd.R_drew)); exact HO410.out))) (Kd.R_lt (by (with_reducible repeat (first | apply Kd.R_alloc | apply Kd.R_drewN | apply Kd.R_drew)); exact HO413.out))) (Kd.S_lt (by (with_reducible repeat (first | apply Kd.S_alloc | apply Kd.S_drewN | apply Kd.S_drew)); exact HO417.out))) (Kd.R_lt (by (with_reducible repeat (first | apply Kd.R_alloc | apply Kd.R_drewN | apply Kd.R_drew)); exact HO421.out))) (Kd.R_lt (by (with_reducible repeat (first | apply Kd.R_alloc | apply Kd.R_drewN | apply Kd.R_drew)); exact HO424.out))) (below_size (by repeat (first | (with_reducible first | exact HB.out | apply below_alloc | apply pw_below_drewN | apply below_drew1 | refine below_set ?_ GE401.out | refine below_set ?_ GE425.out) | exact HB.out)))); have n7_ := Aside0.mk (blk_below (g := gb401) (o := .cells #[.bool a2_0, .slice A2_1 l2_1.length c2_1, .slice A2_2 l2_2.length c2_2] 49 (0, 0)) (by (with_reducible repeat (first | refine blk_drewN ?_ _ | refine blk_drew ?_ | refine blk_alloc ?_ _)); exact BK401.out) hb); have n8_ := Aside0.mk (blk_below (g := gb425) (o := .cells #[.bool t418, .slice Ao44 t419.length co44, .slice Ao45 t422.length co45] 52 (0, 0)) (by (with_reducible repeat (first | refine blk_drewN ?_ _ | refine blk_drew ?_ | refine blk_alloc ?_ _)); exact BK425.out) hb); have n9_ := Aside0.mk (below_step (by repeat (first | (with_reducible first | exact HB.out | apply below_alloc | apply pw_below_drewN | apply below_drew1 | refine below_set ?_ GE401.out | refine below_set ?_ GE425.out) | exact HB.out)) hb); clear HO406; clear HO410; clear HO413; clear HO417; clear HO421; clear HO424; clear BK401; clear BK425; clear HB; have HO406 := n0_; have HO410 := n1_; have HO413 := n2_; have HO417 := n3_; have HO421 := n4_; have HO424 := n5_; have HO429 := n6_; have BK401 := n7_; have BK425 := n8_; have HB := n9_; clear n0_ n1_ n2_ n3_ n4_ n5_ n6_ n7_ n8_ n9_; (try clear hb); (try clear hb2); (try clear hk); (try clear hi); (try clear ho0); obtain ⟨Ao49, co49, eo49⟩ := Kd.S_slice HO429.out; subst eo49) | ((with_reducible refine gate_callee (f := 24) rfl ?_); refine goesL_ (some 42) rfl rfl Try.func24 (by kernel_rfl) rfl #[.slice Ao46 t415.length co46, .slice Ao49 t427.length co49] rfl (by (try simp only [List.map_toArray, List.map_cons, List.map_nil]); first | done | rfl | (simp only [List.length_drop, List.length_take]; rfl)) ?_; (with_reducible refine (laws_eqClassS.calls k _ _ t415 _ _ t427 true _ ?side1 ?side2 ?side3 ?side4 A22.out).mono ?_); (case side1 => repeat (first | exact (Kd.S_reads' HO417.out).2.2 | (with_reducible refine Kd.C_alloc ?_ _) | (with_reducible refine Kd.C_drewN ?_ _) | (with_reducible refine Kd.C_drew ?_))); (case side2 => exact (Kd.S_reads' HO417.out).2.1); (case side3 => repeat (first | exact (Kd.S_reads' HO429.out).2.2 | (with_reducible refine Kd.C_alloc ?_ _) | (with_reducible refine Kd.C_drewN ?_ _) | (with_reducible refine Kd.C_drew ?_))); (case side4 => exact (Kd.S_reads' HO429.out).2.1); rintro e w50 ⟨rfl, hb⟩; refine ⟨_, rfl, ?_⟩; have n0_ := Aside0.mk (Kd.S_below (by (with_reducible repeat (first | apply Kd.S_alloc | apply Kd.S_drewN | apply Kd.S_drew)); exact HO406.out) hb); have n1_ := Aside0.mk (Kd.R_below (by (with_reducible repeat (first | apply Kd.R_alloc | apply Kd.R_drewN | apply Kd.R_drew)); exact HO410.out) hb); have n2_ := Aside0.mk (Kd.R_below (by (with_reducible repeat (first | apply Kd.R_alloc | apply Kd.R_drewN | apply Kd.R_drew)); exact HO413.out) hb); have n3_ := Aside0.mk (Kd.S_below (by (with_reducible repeat (first | apply Kd.S_alloc | apply Kd.S_drewN | apply Kd.S_drew)); exact HO417.out) hb); have n4_ := Aside0.mk (Kd.R_below (by (with_reducible repeat (first | apply Kd.R_alloc | apply Kd.R_drewN | apply Kd.R_drew)); exact HO421.out) hb); have n5_ := Aside0.mk (Kd.R_below (by (with_reducible repeat (first | apply Kd.R_alloc | apply Kd.R_drewN | apply Kd.R_drew)); exact HO424.out) hb); have n6_ := Aside0.mk (Kd.S_below (by (with_reducible repeat (first | apply Kd.S_alloc | apply Kd.S_drewN | apply Kd.S_drew)); exact HO429.out) hb); have n7_ := Aside0.mk (blk_below (g := gb401) (o := .cells #[.bool a2_0, .slice A2_1 l2_1.length c2_1, .slice A2_2 l2_2.length c2_2] 49 (0, 0)) (by (with_reducible repeat (first | refine blk_drewN ?_ _ | refine blk_drew ?_ | refine blk_alloc ?_ _)); exact BK401.out) hb); have n8_ := Aside0.mk (blk_below (g := gb425) (o := .cells #[.bool t418, .slice Ao44 t419.length co44, .slice Ao45 t422.length co45] 52 (0, 0)) (by (with_reducible repeat (first | refine blk_drewN ?_ _ | refine blk_drew ?_ | refine blk_alloc ?_ _)); exact BK425.out) hb); have n9_ := Aside0.mk (below_step (by repeat (first | (with_reducible first | exact HB.out | apply below_alloc | apply pw_below_drewN | apply below_drew1 | refine below_set ?_ GE401.out | refine below_set ?_ GE425.out) | exact HB.out)) hb); clear HO406; clear HO410; clear HO413; clear HO417; clear HO421; clear HO424; clear HO429; clear BK401; clear BK425; clear HB; have HO406 := n0_; have HO410 := n1_; have HO413 := n2_; have HO417 := n3_; have HO421 := n4_; have HO424 := n5_; have HO429 := n6_; have BK401 := n7_; have BK425 := n8_; have HB := n9_; clear n0_ n1_ n2_ n3_ n4_ n5_ n6_ n7_ n8_ n9_; (try clear hb); (try clear hb2); (try clear hk); (try clear hi)))
            have n0_ := Aside0.mk (Kd.S_drew HO406.out)
            have n1_ := Aside0.mk (Kd.R_drew HO410.out)
            have n2_ := Aside0.mk (Kd.R_drew HO413.out)
            have n3_ := Aside0.mk (Kd.S_drew HO417.out)
            have n4_ := Aside0.mk (Kd.R_drew HO421.out)
            have n5_ := Aside0.mk (Kd.R_drew HO424.out)
            have n6_ := Aside0.mk (Kd.S_drew HO429.out)
            have n7_ := Aside0.mk (blk_drew BK401.out)
            have n8_ := Aside0.mk (blk_drew BK425.out)
            have n9_ := Aside0.mk (below_drew1 HB.out)
            clear HO406
            clear HO410
            clear HO413
            clear HO417
            clear HO421
            clear HO424
            clear HO429
            clear BK401
            clear BK425
            clear HB
            have HO406 := n0_
            have HO410 := n1_
            have HO413 := n2_
            have HO417 := n3_
            have HO421 := n4_
            have HO424 := n5_
            have HO429 := n6_
            have BK401 := n7_
            have BK425 := n8_
            have HB := n9_
            clear n0_ n1_ n2_ n3_ n4_ n5_ n6_ n7_ n8_ n9_
            refine start_ (n := 5) (S := fun w' => w'.cell? ⟨gb425, 0, none⟩ = some (.bool t418) ∧ w'.cell? ⟨gb425, 1, none⟩ = some (.slice Ao44 t419.length co44) ∧ w'.cell? ⟨gb425, 2, none⟩ = some (.slice Ao45 t422.length co45) ∧ w'.cell? ⟨gb401, 0, none⟩ = some (.bool a2_0) ∧ w'.cell? ⟨gb401, 1, none⟩ = some (.slice A2_1 l2_1.length c2_1) ∧ w'.cell? ⟨gb401, 2, none⟩ = some (.slice A2_2 l2_2.length c2_2)) (ds := []) #[false, false, false, false, false] (by kernel_rfl) rfl rfl ⟨(blk_cell BK425.out 0).trans rfl, (blk_cell BK425.out 1).trans rfl, (blk_cell BK425.out 2).trans rfl, (blk_cell BK401.out 0).trans rfl, (blk_cell BK401.out 1).trans rfl, (blk_cell BK401.out 2).trans rfl⟩ (fun hHeld => ?_)
            generalize w50.drew = w51 at HO406 HO410 HO413 HO417 HO421 HO424 HO429 BK401 BK425 HB hHeld ⊢
            refine take_ (i := 0) (N := some 44) (v := ?_) (a' := ?_) #[true, false, false, false, false] rfl rfl (by kernel_rfl) (fun _ _ _ h => h) (Or.inl ⟨by rfl, ?_⟩) hHeld ?_ ?_
            rotate_left
            · rintro w' ⟨s0, s1, s2, s3, s4, s5⟩
              go_simp
              with_reducible rfl
            rotate_left
            · simp only [Act.put, List.setIfInBounds_toArray, List.set_cons_zero, List.set_cons_succ, i64_w, i32_w]
              rfl
            refine take_ (i := 1) (N := some 45) (v := ?_) (a' := ?_) #[true, true, false, false, false] rfl rfl (by kernel_rfl) (fun _ _ _ h => h) (Or.inl ⟨by rfl, ?_⟩) hHeld ?_ ?_
            rotate_left
            · rintro w' ⟨s0, s1, s2, s3, s4, s5⟩
              go_simp
              with_reducible rfl
            rotate_left
            · simp only [Act.put, List.setIfInBounds_toArray, List.set_cons_zero, List.set_cons_succ, i64_w, i32_w]
              rfl
            refine one_ (i := 2) (N := some 46) #[true, true, true, false, false] rfl rfl (by kernel_rfl) (by decide) (fun K hK => ?_)
            refine goes_ Try.func47 (by kernel_rfl) rfl #[.agg #[.bool a2_0, .slice A2_1 l2_1.length c2_1, .slice A2_2 l2_2.length c2_2]] (by rfl) rfl rfl (by (try simp only [List.map_toArray, List.map_cons, List.map_nil]); first | done | rfl | (simp only [List.length_drop, List.length_take]; rfl)) ?_
            with_reducible refine (laws_toShape.calls k a2_0 _ _ l2_1 _ _ l2_2 t431 t432 t435 _ ?side1 ?side2 ?side3 ?side4 A24.out).mono ?_
            (case side1 => repeat (first | exact (Kd.C_below HR2_1.out HB.out) | (with_reducible refine Kd.C_alloc ?_ _) | (with_reducible refine Kd.C_drewN ?_ _) | (with_reducible refine Kd.C_drew ?_)))
            (case side2 => exact HC2_1.out)
            (case side3 => repeat (first | exact (Kd.C_below HR2_2.out HB.out) | (with_reducible refine Kd.C_alloc ?_ _) | (with_reducible refine Kd.C_drewN ?_ _) | (with_reducible refine Kd.C_drew ?_)))
            (case side4 => exact HC2_2.out)
            rintro e w52 ⟨v433, v436, rfl, ho0, ho1, hb⟩
            refine ⟨_, rfl, ?_⟩
            have n0_ := Aside0.mk (Kd.S_mono (Kd.S_told (Kd.S_told (Kd.S_old (by (with_reducible repeat (first | apply Kd.S_alloc | apply Kd.S_drewN | apply Kd.S_drew)); exact HO406.out) hb) (Kd.R_base ho0)) (Kd.R_base ho1)) (fun _ h_ => h_.1))
            have n1_ := Aside0.mk (Kd.R_mono (Kd.R_told (Kd.R_told (Kd.R_old (by (with_reducible repeat (first | apply Kd.R_alloc | apply Kd.R_drewN | apply Kd.R_drew)); exact HO410.out) hb) (Kd.R_base ho0)) (Kd.R_base ho1)) (fun _ h_ => h_.1))
            have n2_ := Aside0.mk (Kd.R_mono (Kd.R_told (Kd.R_told (Kd.R_old (by (with_reducible repeat (first | apply Kd.R_alloc | apply Kd.R_drewN | apply Kd.R_drew)); exact HO413.out) hb) (Kd.R_base ho0)) (Kd.R_base ho1)) (fun _ h_ => h_.1))
            have n3_ := Aside0.mk (Kd.S_mono (Kd.S_told (Kd.S_told (Kd.S_old (by (with_reducible repeat (first | apply Kd.S_alloc | apply Kd.S_drewN | apply Kd.S_drew)); exact HO417.out) hb) (Kd.R_base ho0)) (Kd.R_base ho1)) (fun _ h_ => h_.1))
            have n4_ := Aside0.mk (Kd.R_mono (Kd.R_told (Kd.R_told (Kd.R_old (by (with_reducible repeat (first | apply Kd.R_alloc | apply Kd.R_drewN | apply Kd.R_drew)); exact HO421.out) hb) (Kd.R_base ho0)) (Kd.R_base ho1)) (fun _ h_ => h_.1))
            have n5_ := Aside0.mk (Kd.R_mono (Kd.R_told (Kd.R_told (Kd.R_old (by (with_reducible repeat (first | apply Kd.R_alloc | apply Kd.R_drewN | apply Kd.R_drew)); exact HO424.out) hb) (Kd.R_base ho0)) (Kd.R_base ho1)) (fun _ h_ => h_.1))
            have n6_ := Aside0.mk (Kd.S_mono (Kd.S_told (Kd.S_told (Kd.S_old (by (with_reducible repeat (first | apply Kd.S_alloc | apply Kd.S_drewN | apply Kd.S_drew)); exact HO429.out) hb) (Kd.R_base ho0)) (Kd.R_base ho1)) (fun _ h_ => h_.1))
            have n7_ := Aside0.mk (Kd.R_lower (Kd.R_new' (Kd.R_new' (Kd.R_new' (Kd.R_new' ho0 (Kd.R_lt (by (with_reducible repeat (first | apply Kd.R_alloc | apply Kd.R_drewN | apply Kd.R_drew)); exact HO410.out))) (Kd.R_lt (by (with_reducible repeat (first | apply Kd.R_alloc | apply Kd.R_drewN | apply Kd.R_drew)); exact HO413.out))) (Kd.R_lt (by (with_reducible repeat (first | apply Kd.R_alloc | apply Kd.R_drewN | apply Kd.R_drew)); exact HO421.out))) (Kd.R_lt (by (with_reducible repeat (first | apply Kd.R_alloc | apply Kd.R_drewN | apply Kd.R_drew)); exact HO424.out))) (below_size (by repeat (first | (with_reducible first | exact HB.out | apply below_alloc | apply pw_below_drewN | apply below_drew1 | refine below_set ?_ GE401.out | refine below_set ?_ GE425.out) | exact HB.out))))
            have n8_ := Aside0.mk (Kd.R_lower (Kd.R_new' (Kd.R_new' (Kd.R_new' (Kd.R_new' ho1 (Kd.R_lt (by (with_reducible repeat (first | apply Kd.R_alloc | apply Kd.R_drewN | apply Kd.R_drew)); exact HO410.out))) (Kd.R_lt (by (with_reducible repeat (first | apply Kd.R_alloc | apply Kd.R_drewN | apply Kd.R_drew)); exact HO413.out))) (Kd.R_lt (by (with_reducible repeat (first | apply Kd.R_alloc | apply Kd.R_drewN | apply Kd.R_drew)); exact HO421.out))) (Kd.R_lt (by (with_reducible repeat (first | apply Kd.R_alloc | apply Kd.R_drewN | apply Kd.R_drew)); exact HO424.out))) (below_size (by repeat (first | (with_reducible first | exact HB.out | apply below_alloc | apply pw_below_drewN | apply below_drew1 | refine below_set ?_ GE401.out | refine below_set ?_ GE425.out) | exact HB.out))))
            have n9_ := Aside0.mk (blk_below (g := gb401) (o := .cells #[.bool a2_0, .slice A2_1 l2_1.length c2_1, .slice A2_2 l2_2.length c2_2] 49 (0, 0)) (by (with_reducible repeat (first | refine blk_drewN ?_ _ | refine blk_drew ?_ | refine blk_alloc ?_ _)); exact BK401.out) hb)
            have n10_ := Aside0.mk (blk_below (g := gb425) (o := .cells #[.bool t418, .slice Ao44 t419.length co44, .slice Ao45 t422.length co45] 52 (0, 0)) (by (with_reducible repeat (first | refine blk_drewN ?_ _ | refine blk_drew ?_ | refine blk_alloc ?_ _)); exact BK425.out) hb)
            have n11_ := Aside0.mk (below_step (by repeat (first | (with_reducible first | exact HB.out | apply below_alloc | apply pw_below_drewN | apply below_drew1 | refine below_set ?_ GE401.out | refine below_set ?_ GE425.out) | exact HB.out)) hb)
            clear HO406
            clear HO410
            clear HO413
            clear HO417
            clear HO421
            clear HO424
            clear HO429
            clear BK401
            clear BK425
            clear HB
            have HO406 := n0_
            have HO410 := n1_
            have HO413 := n2_
            have HO417 := n3_
            have HO421 := n4_
            have HO424 := n5_
            have HO429 := n6_
            have HO434 := n7_
            have HO437 := n8_
            have BK401 := n9_
            have BK425 := n10_
            have HB := n11_
            clear n0_ n1_ n2_ n3_ n4_ n5_ n6_ n7_ n8_ n9_ n10_ n11_
            (try clear hb)
            (try clear hb2)
            (try clear hk)
            (try clear hi)
            (try clear ho0)
            (try clear ho1)
            obtain ⟨Ao53, co53, eo53⟩ := Kd.R_slice HO434.out
            (first | subst eo53 | (injection eo53 with f1_ f2_ f3_; have f4_ := f1_.symm; have f5_ := f3_.symm; clear f1_ f2_ f3_; subst f4_; subst f5_))
            obtain ⟨Ao54, co54, eo54⟩ := Kd.R_slice HO437.out
            (first | subst eo54 | (injection eo54 with f1_ f2_ f3_; have f4_ := f1_.symm; have f5_ := f3_.symm; clear f1_ f2_ f3_; subst f4_; subst f5_))
            refine hK.out _ _ ⟨(blk_cell BK425.out 0).trans rfl, (blk_cell BK425.out 1).trans rfl, (blk_cell BK425.out 2).trans rfl, (blk_cell BK401.out 0).trans rfl, (blk_cell BK401.out 1).trans rfl, (blk_cell BK401.out 2).trans rfl⟩ (fun hHeld => ?_)
            clear hK K
            refine norm_ (a' := ?_) ?_ ?_
            rotate_left
            · show Act.put _ (some 46) _ = _
              simp only [Act.put, List.setIfInBounds_toArray, List.set_cons_zero, List.set_cons_succ, i64_w, i32_w]
              rfl
            refine one_ (i := 3) (N := some 47) #[true, true, true, true, false] rfl rfl (by kernel_rfl) (by decide) (fun K hK => ?_)
            refine goes_ Try.func49 (by kernel_rfl) rfl #[.agg #[.bool t418, .slice Ao44 t419.length co44, .slice Ao45 t422.length co45], .agg #[.bool t431, .slice Ao53 t432.length co53, .slice Ao54 t435.length co54]] (by rfl) rfl rfl (by (try simp only [List.map_toArray, List.map_cons, List.map_nil]); first | done | rfl | (simp only [List.length_drop, List.length_take]; rfl)) ?_
            with_reducible refine (laws_eqShape.calls k t418 _ _ t419 _ _ t422 t431 _ _ t432 _ _ t435 true _ ?side1 ?side2 ?side3 ?side4 ?side5 ?side6 ?side7 ?side8 A25.out).mono ?_
            (case side1 => repeat (first | exact (Kd.R_reads' HO421.out).2.2 | (with_reducible refine Kd.C_alloc ?_ _) | (with_reducible refine Kd.C_drewN ?_ _) | (with_reducible refine Kd.C_drew ?_)))
            (case side2 => exact (Kd.R_reads' HO421.out).2.1)
            (case side3 => repeat (first | exact (Kd.R_reads' HO424.out).2.2 | (with_reducible refine Kd.C_alloc ?_ _) | (with_reducible refine Kd.C_drewN ?_ _) | (with_reducible refine Kd.C_drew ?_)))
            (case side4 => exact (Kd.R_reads' HO424.out).2.1)
            (case side5 => repeat (first | exact (Kd.R_reads' HO434.out).2.2 | (with_reducible refine Kd.C_alloc ?_ _) | (with_reducible refine Kd.C_drewN ?_ _) | (with_reducible refine Kd.C_drew ?_)))
            (case side6 => exact (Kd.R_reads' HO434.out).2.1)
            (case side7 => repeat (first | exact (Kd.R_reads' HO437.out).2.2 | (with_reducible refine Kd.C_alloc ?_ _) | (with_reducible refine Kd.C_drewN ?_ _) | (with_reducible refine Kd.C_drew ?_)))
            (case side8 => exact (Kd.R_reads' HO437.out).2.1)
            rintro e w55 ⟨rfl, hb⟩
            refine ⟨_, rfl, ?_⟩
            have n0_ := Aside0.mk (Kd.S_below (by (with_reducible repeat (first | apply Kd.S_alloc | apply Kd.S_drewN | apply Kd.S_drew)); exact HO406.out) hb)
            have n1_ := Aside0.mk (Kd.R_below (by (with_reducible repeat (first | apply Kd.R_alloc | apply Kd.R_drewN | apply Kd.R_drew)); exact HO410.out) hb)
            have n2_ := Aside0.mk (Kd.R_below (by (with_reducible repeat (first | apply Kd.R_alloc | apply Kd.R_drewN | apply Kd.R_drew)); exact HO413.out) hb)
            have n3_ := Aside0.mk (Kd.S_below (by (with_reducible repeat (first | apply Kd.S_alloc | apply Kd.S_drewN | apply Kd.S_drew)); exact HO417.out) hb)
            have n4_ := Aside0.mk (Kd.R_below (by (with_reducible repeat (first | apply Kd.R_alloc | apply Kd.R_drewN | apply Kd.R_drew)); exact HO421.out) hb)
            have n5_ := Aside0.mk (Kd.R_below (by (with_reducible repeat (first | apply Kd.R_alloc | apply Kd.R_drewN | apply Kd.R_drew)); exact HO424.out) hb)
            have n6_ := Aside0.mk (Kd.S_below (by (with_reducible repeat (first | apply Kd.S_alloc | apply Kd.S_drewN | apply Kd.S_drew)); exact HO429.out) hb)
            have n7_ := Aside0.mk (Kd.R_below (by (with_reducible repeat (first | apply Kd.R_alloc | apply Kd.R_drewN | apply Kd.R_drew)); exact HO434.out) hb)
            have n8_ := Aside0.mk (Kd.R_below (by (with_reducible repeat (first | apply Kd.R_alloc | apply Kd.R_drewN | apply Kd.R_drew)); exact HO437.out) hb)
            have n9_ := Aside0.mk (blk_below (g := gb401) (o := .cells #[.bool a2_0, .slice A2_1 l2_1.length c2_1, .slice A2_2 l2_2.length c2_2] 49 (0, 0)) (by (with_reducible repeat (first | refine blk_drewN ?_ _ | refine blk_drew ?_ | refine blk_alloc ?_ _)); exact BK401.out) hb)
            have n10_ := Aside0.mk (blk_below (g := gb425) (o := .cells #[.bool t418, .slice Ao44 t419.length co44, .slice Ao45 t422.length co45] 52 (0, 0)) (by (with_reducible repeat (first | refine blk_drewN ?_ _ | refine blk_drew ?_ | refine blk_alloc ?_ _)); exact BK425.out) hb)
            have n11_ := Aside0.mk (below_step (by repeat (first | (with_reducible first | exact HB.out | apply below_alloc | apply pw_below_drewN | apply below_drew1 | refine below_set ?_ GE401.out | refine below_set ?_ GE425.out) | exact HB.out)) hb)
            clear HO406
            clear HO410
            clear HO413
            clear HO417
            clear HO421
            clear HO424
            clear HO429
            clear HO434
            clear HO437
            clear BK401
            clear BK425
            clear HB
            have HO406 := n0_
            have HO410 := n1_
            have HO413 := n2_
            have HO417 := n3_
            have HO421 := n4_
            have HO424 := n5_
            have HO429 := n6_
            have HO434 := n7_
            have HO437 := n8_
            have BK401 := n9_
            have BK425 := n10_
            have HB := n11_
            clear n0_ n1_ n2_ n3_ n4_ n5_ n6_ n7_ n8_ n9_ n10_ n11_
            (try clear hb)
            (try clear hb2)
            (try clear hk)
            (try clear hi)
            refine hK.out _ _ ⟨(blk_cell BK425.out 0).trans rfl, (blk_cell BK425.out 1).trans rfl, (blk_cell BK425.out 2).trans rfl, (blk_cell BK401.out 0).trans rfl, (blk_cell BK401.out 1).trans rfl, (blk_cell BK401.out 2).trans rfl⟩ (fun hHeld => ?_)
            clear hK K
            refine norm_ (a' := ?_) ?_ ?_
            rotate_left
            · show Act.put _ (some 47) _ = _
              simp only [Act.put, List.setIfInBounds_toArray, List.set_cons_zero, List.set_cons_succ, i64_w, i32_w]
              rfl
            refine pure_ (i := 4) (N := some 48) (v := ?_) (a' := ?_) #[true, true, true, true, true] rfl rfl (by kernel_rfl) (fun _ _ _ h => h) (Or.inl ⟨by rfl, ?_⟩) ?_ ?_
            rotate_left
            · intro w'
              go_simp
              with_reducible rfl
            rotate_left
            · simp only [Act.put, List.setIfInBounds_toArray, List.set_cons_zero, List.set_cons_succ, i64_w, i32_w]
              rfl
            refine done_ (by kernel_rfl) ?_
            try go_wp2
            go_ret
            exact ⟨by first | rfl | (simp [errW_none, errW_some] <;> rfl) | (simp [*, errW_none, errW_some] <;> rfl), by repeat (first | (with_reducible first | exact HB.out | apply below_alloc | apply pw_below_drewN | apply below_drew1 | refine below_set ?_ GE401.out | refine below_set ?_ GE425.out) | exact HB.out)⟩
          · replace c26 := Bool.eq_false_iff.mpr c26
            subst c26
            have H1 : (some false) = some r := by rw [if_neg (show ¬ (false = true) by decide)] at H; exact H
            clear H
            have H := H1
            clear H1
            obtain rfl := Option.some.inj H
            exact absurd hr_ (by decide)
        · replace c23 := Bool.eq_false_iff.mpr c23
          subst c23
          have H1 : (some false) = some r := by rw [if_neg (show ¬ (false = true) by decide)] at H; exact H
          clear H
          have H := H1
          clear H1
          obtain rfl := Option.some.inj H
          exact absurd hr_ (by decide)

end Go.Proofs.Ytgmjolngnhdafaa.P

end
section
namespace Go.Proofs.Ytgmjolngnhdafaa.Open
open Go Go.RowKit Go.ChangeShapes Go.WideShapes Go.Deep Go.Proofs.YtgmjolngnhdafaaW.PrintWords
set_option linter.unusedVariables false
set_option linter.unusedSectionVars false
/-- From 'for each i < n there is one' to a list of them. -/
theorem list_of {α : Type} {n : Nat} {p : Nat → α → Prop} (h : ∀ i, i < n → ∃ x, p i x) : ∃ xs : List α, xs.length = n ∧ ∀ i y, xs[i]? = some y → p i y := by
  induction n with
  | zero => exact ⟨[], rfl, fun i y hy => by simp at hy⟩
  | succ q ih =>
    obtain ⟨xs, hl, hxs⟩ := ih (fun i hi => h i (by omega))
    obtain ⟨z, hz⟩ := h q (by omega)
    refine ⟨xs ++ [z], by simp [hl], fun i y hy => ?_⟩
    by_cases hi : i < xs.length
    · rw [List.getElem?_append_left hi] at hy
      exact hxs i y hy
    · rw [List.getElem?_append_right (by omega)] at hy
      have hi2 : i = xs.length := by
        have := (List.getElem?_eq_some_iff.1 hy).1
        simp at this
        omega
      subst hi2
      simp at hy
      subst hy
      rw [hl]
      exact hz
section
variable {H : Type} {enc : TypeId × Value → H} {P : Program} {w : World} {base : Nat} {spare : Nat → Bool} {held : Bool}

/-- What reads as data of type t reads as d tells it. -/
def Opens {H : Type} (enc : TypeId × Value → H) (P : Program) (w : World) (base : Nat) (spare : Nat → Bool) (held : Bool) {α : Type} (t : TypeId) (d : Kd α) (wf : α → Prop) : Prop :=
  ∀ (fuel : Nat) (cs : List Value) (x : DataW H × List MemPlace), DataW.trod enc P w base spare held fuel t cs = some x → ∃ a, d.K w a cs ∧ wf a
theorem opens_int {k : IntKind} {t : TypeId} (hu : P.underlying t = some (.int k)) : Opens enc P w base spare held t (Kd.int k) (fun n => (Lit.int k n).wf = true) := by
  intro fuel cs x h
  obtain ⟨n, rfl, _, hw⟩ := DataW.trod_int hu h
  exact ⟨n, rfl, hw⟩
theorem opens_bool {t : TypeId} (hu : P.underlying t = some .bool) : Opens enc P w base spare held t Kd.bool (fun _ => True) := by
  intro fuel cs x h
  obtain ⟨b, rfl, _⟩ := DataW.trod_bool hu h
  exact ⟨b, rfl, trivial⟩
theorem cells_get {base n : Nat} {a : Addr} {cs : List Value} (h : w.cells? base a n = some cs) : cs.length = n ∧ ∀ i u, cs[i]? = some u → w.cell? (a.add i) = some u := by
  obtain ⟨hb, hl, hc⟩ := World.cells?_some h
  refine ⟨hl, fun i u hu => ?_⟩
  have hi : i < cs.length := (List.getElem?_eq_some_iff.1 hu).1
  rw [hc i (by omega), hu]
theorem opens_slice {α : Type} {d : Kd α} {wf : α → Prop} {t e : TypeId} (hu : P.underlying t = some (.slice e)) (hc : P.cellsOf e = d.sz) (ho : Opens enc P w base spare held e d wf) :
    Opens enc P w base spare held t (Kd.slice e d) (fun xs => xs.length ≤ 9223372036854775807 ∧ ∀ x ∈ xs, wf x) := by
  intro fuel cs x h
  rcases open_slice hu h with ⟨rfl, _⟩ | ⟨a, len, cap, m, n, D, Pl, rfl, _, hlc, hcm, hm, _, hel⟩
  · exact ⟨[], ⟨none, 0, rfl, Nat.le_refl 0, rfl, Nat.zero_le _, fun hp => absurd hp (Nat.lt_irrefl 0)⟩, Nat.zero_le _, fun x hx => by cases hx⟩
  · have hlm : len ≤ m := by rw [hm]; split <;> omega
    obtain ⟨xs, hxl, hxs⟩ := list_of (p := fun i y => ∃ c, w.cells? base (a.add (i * P.cellsOf e)) (P.cellsOf e) = some c ∧ d.K w y c ∧ wf y) (fun i hi => by
      obtain ⟨cs', h1, h2⟩ := hel i (by omega)
      obtain ⟨y, hy, hw⟩ := ho n cs' _ h2
      exact ⟨y, cs', h1, hy, hw⟩ : ∀ i, i < len → _)
    have hmax : len ≤ 9223372036854775807 := by unfold maxLen at hcm; omega
    subst hxl
    refine ⟨xs, ⟨some a, cap, rfl, hlc, rfl, hmax, fun _ => ⟨a, rfl, fun j p hj => ?_⟩⟩, hmax, fun y hy => ?_⟩
    · obtain ⟨c, h1, h2, _⟩ := hxs j p hj
      rw [hc] at h1
      obtain ⟨h3, h4⟩ := cells_get h1
      exact ⟨c, h3, h2, fun i u hu => by rw [← Go.Deep.add_add]; exact h4 i u hu⟩
    · obtain ⟨i, hi⟩ := List.getElem?_of_mem hy
      obtain ⟨_, _, _, h3⟩ := hxs i y hi
      exact h3
/-- Fields one behind the other, from a place on. -/
def OpensF {H : Type} (enc : TypeId × Value → H) (P : Program) (w : World) (base : Nat) (spare : Nat → Bool) (held : Bool) {β : Type} (fs : List Field) (off : Nat) (d : Kd β) (wf : β → Prop) : Prop :=
  ∀ (fuel : Nat) (cs : List Value), cs.length = off + d.sz → (∀ f ∈ fs, ∃ y, DataW.trod enc P w base spare held fuel f.type ((cs.drop f.offset).take (P.cellsOf f.type)) = some y) → ∃ b, d.K w b (cs.drop off) ∧ wf b
theorem opensF_one {α : Type} {d : Kd α} {wf : α → Prop} {f : Field} {off : Nat} (ho : f.offset = off) (hc : P.cellsOf f.type = d.sz) (h : Opens enc P w base spare held f.type d wf) : OpensF enc P w base spare held [f] off d wf := by
  intro fuel cs hl hf
  obtain ⟨y, hy⟩ := hf f (by simp)
  rw [ho, hc, List.take_of_length_le (by simp; omega)] at hy
  exact h fuel _ _ hy
theorem opensF_cons {α β : Type} {d : Kd α} {d2 : Kd β} {wf : α → Prop} {wf2 : β → Prop} {f : Field} {fs : List Field} {off off2 : Nat} (ho : f.offset = off) (hc : P.cellsOf f.type = d.sz) (h2 : off2 = off + d.sz)
    (h : Opens enc P w base spare held f.type d wf) (hr : OpensF enc P w base spare held fs off2 d2 wf2) : OpensF enc P w base spare held (f :: fs) off (Kd.pair d d2) (fun p => wf p.1 ∧ wf2 p.2) := by
  intro fuel cs hl hf
  have hl' : cs.length = off + (d.sz + d2.sz) := hl
  obtain ⟨y, hy⟩ := hf f (by simp)
  rw [ho, hc] at hy
  obtain ⟨a, ha, hwa⟩ := h fuel _ _ hy
  obtain ⟨b, hb, hwb⟩ := hr fuel cs (by omega) (fun g hg => hf g (by simp [hg]))
  refine ⟨(a, b), ⟨_, _, ?_, ha, hb⟩, hwa, hwb⟩
  rw [h2, ← List.drop_drop]
  exact (List.take_append_drop d.sz (cs.drop off)).symm
theorem opens_struct {α β : Type} {d : Kd β} {wf : β → Prop} {t : TypeId} {fs : Array Field} (hu : P.underlying t = some (.struct fs)) (hc : P.cellsOf t = d.sz) (h : OpensF enc P w base spare held fs.toList 0 d wf) (f : α → β) (g : β → α) (hfg : ∀ b, f (g b) = b) :
    Opens enc P w base spare held t (Kd.iso d f) (fun a => wf (f a)) := by
  intro fuel cs x hx
  obtain ⟨xs, n, _, _, hl, hxl, hfs⟩ := DataW.trod_struct hu hx
  obtain ⟨b, hb, hwb⟩ := h n cs (by omega) (fun q hq => by
    obtain ⟨i, hi⟩ := List.getElem?_of_mem hq
    rw [Array.getElem?_toList] at hi
    have hlt : i < xs.length := by rw [hxl]; exact (Array.getElem?_eq_some_iff.1 hi).1
    rw [hfs i q hi, List.getElem?_eq_getElem hlt]
    exact ⟨_, rfl⟩)
  exact ⟨g b, by show d.K w (f (g b)) cs; rw [hfg]; exact hb, by show wf (f (g b)); rw [hfg]; exact hwb⟩
/-- An argument: its value's cells. -/
theorem opens_arg {α : Type} {d : Kd α} {wf : α → Prop} {t : TypeId} {v : Value} {x : DataW H} {ps : List MemPlace} (h : DataW.Trod enc P w base spare held t v x ps) (ho : Opens enc P w base spare held t d wf) : ∃ a, d.K w a v.cells.toList ∧ wf a := by
  obtain ⟨fuel, hf⟩ := h
  exact ho fuel _ _ hf
end
end Go.Proofs.Ytgmjolngnhdafaa.Open

end
section
namespace Go.Proofs.Ytgmjolngnhdafaa.P
open Go.RowKit Go.Proofs.YtgmjolngnhdafaaW.PrintWords Go.Proofs.Ytgmjolngnhdafaa.Open
/-! #### struct type 49 -/
structure S49 where
  f0 : Bool
  f1 : (List Int)
  f2 : (List Int)
def z49 : S49 := ⟨false, ([] : List Int), ([] : List Int)⟩
def k49 : Kd S49 := Kd.iso (Kd.pair Kd.bool (Kd.pair (Kd.slice 3 (Kd.int .i64)) (Kd.slice 3 (Kd.int .i64)))) (fun x : S49 => (x.f0, x.f1, x.f2))
theorem k49_open {w : World} {x : S49} {cs : List Value} (h : k49.K w x cs) : ∃ A1 c1 A2 c2, cs = [.bool x.f0, .slice A1 x.f1.length c1, .slice A2 x.f2.length c2] ∧ x.f1.length ≤ c1 ∧ (Kd.int .i64).C w A1 x.f1.length x.f1 ∧ x.f2.length ≤ c2 ∧ (Kd.int .i64).C w A2 x.f2.length x.f2 := by
  obtain ⟨_, _, rfl, rfl, ⟨_, _, rfl, ⟨A1, c1, rfl, l1, g1⟩, ⟨A2, c2, rfl, l2, g2⟩⟩⟩ := h
  exact ⟨A1, c1, A2, c2, rfl, l1, g1, l2, g2⟩
theorem k49_openM {w : World} {base : Nat} {ok : Nat → Prop} {x : S49} {cs : List Value} (h : k49.M w base ok x cs) : ∃ v1 v2, cs = [.bool x.f0, v1, v2] ∧ (Kd.int .i64).R 3 w base ok v1 x.f1 ∧ (Kd.int .i64).R 3 w base ok v2 x.f2 := by
  obtain ⟨_, _, rfl, rfl, ⟨_, _, rfl, ⟨v1, rfl, g1⟩, ⟨v2, rfl, g2⟩⟩⟩ := h
  exact ⟨v1, v2, rfl, g1, g2⟩
theorem k49_mk (w : World) (x : S49) {A1 : Option Addr} {c1 : Nat} (l1 : x.f1.length ≤ c1) (g1 : (Kd.int .i64).C w A1 x.f1.length x.f1) {A2 : Option Addr} {c2 : Nat} (l2 : x.f2.length ≤ c2) (g2 : (Kd.int .i64).C w A2 x.f2.length x.f2) : k49.K w x [.bool x.f0, .slice A1 x.f1.length c1, .slice A2 x.f2.length c2] := ⟨[.bool x.f0], [.slice A1 x.f1.length c1, .slice A2 x.f2.length c2], rfl, rfl, ⟨[.slice A1 x.f1.length c1], [.slice A2 x.f2.length c2], rfl, ⟨A1, c1, rfl, l1, g1⟩, ⟨A2, c2, rfl, l2, g2⟩⟩⟩
theorem k49_mkM (w : World) (base : Nat) (ok : Nat → Prop) (x : S49) {v1 : Value} (g1 : (Kd.int .i64).R 3 w base ok v1 x.f1) {v2 : Value} (g2 : (Kd.int .i64).R 3 w base ok v2 x.f2) : k49.M w base ok x [.bool x.f0, v1, v2] := ⟨[.bool x.f0], [v1, v2], rfl, rfl, ⟨[v1], [v2], rfl, ⟨v1, rfl, g1⟩, ⟨v2, rfl, g2⟩⟩⟩
theorem k49_openF {W : World} {ok : Nat → Prop} {x : S49} {cs : List Value} (h : Kd.FK k49 W ok x cs) : ∃ A1 c1 A2 c2, cs = [.bool x.f0, .slice A1 x.f1.length c1, .slice A2 x.f2.length c2] ∧ x.f1.length ≤ c1 ∧ Kd.F (Kd.int .i64) W ok A1 x.f1.length x.f1 ∧ x.f2.length ≤ c2 ∧ Kd.F (Kd.int .i64) W ok A2 x.f2.length x.f2 := by
  obtain ⟨A1, c1, A2, c2, rfl, l1, _, l2, _⟩ := k49_open (Kd.FK_now h)
  exact ⟨A1, c1, A2, c2, rfl, l1, (fun W' hW => by obtain ⟨A1_, c1_, A2_, c2_, he, l1_, g1_, l2_, g2_⟩ := k49_open (h W' hW); injection (Option.some.inj (show some (Value.slice A1 x.f1.length c1) = some (Value.slice A1_ x.f1.length c1_) from congrArg (fun l => l[1]?) he)) with ha_ _ _; rw [ha_]; exact g1_), l2, (fun W' hW => by obtain ⟨A1_, c1_, A2_, c2_, he, l1_, g1_, l2_, g2_⟩ := k49_open (h W' hW); injection (Option.some.inj (show some (Value.slice A2 x.f2.length c2) = some (Value.slice A2_ x.f2.length c2_) from congrArg (fun l => l[2]?) he)) with ha_ _ _; rw [ha_]; exact g2_)⟩
theorem k49_mkF (W : World) (ok : Nat → Prop) (x : S49) {A1 : Option Addr} {c1 : Nat} (l1 : x.f1.length ≤ c1) (g1 : Kd.F (Kd.int .i64) W ok A1 x.f1.length x.f1) {A2 : Option Addr} {c2 : Nat} (l2 : x.f2.length ≤ c2) (g2 : Kd.F (Kd.int .i64) W ok A2 x.f2.length x.f2) : Kd.FK k49 W ok x [.bool x.f0, .slice A1 x.f1.length c1, .slice A2 x.f2.length c2] := fun W2 hW => k49_mk W2 x l1 (g1 W2 hW) l2 (g2 W2 hW)
def rd_T49 (xs : List S49) (i : Int) : S49 := xs.getD i.toNat z49
theorem at_T49 {w : World} {A : Option Addr} {n : Nat} {xs : List S49} (h : Kd.C k49 w A n xs) (i : Int) (h0 : 0 ≤ i) (h1 : i < n) : ∃ ad A1 c1 A2 c2, A = some ad ∧ w.cell? (ad.add (i.toNat * 3)) = some (.bool (rd_T49 xs i).f0) ∧ w.cell? ⟨(ad.add (i.toNat * 3)).block, (ad.add (i.toNat * 3)).off + 1, none⟩ = some (.slice A1 (rd_T49 xs i).f1.length c1) ∧ w.cell? ⟨(ad.add (i.toNat * 3)).block, (ad.add (i.toNat * 3)).off + 2, none⟩ = some (.slice A2 (rd_T49 xs i).f2.length c2) ∧ (rd_T49 xs i).f1.length ≤ c1 ∧ (Kd.int .i64).C w A1 (rd_T49 xs i).f1.length (rd_T49 xs i).f1 ∧ (rd_T49 xs i).f2.length ≤ c2 ∧ (Kd.int .i64).C w A2 (rd_T49 xs i).f2.length (rd_T49 xs i).f2 := by
  obtain ⟨ad, c, e, _, hK, hc0⟩ := Kd.C_get h z49 i h0 h1
  have hc : ∀ j u, c[j]? = some u → w.cell? (ad.add (i.toNat * 3 + j)) = some u := hc0
  obtain ⟨A1, c1, A2, c2, rfl, l1, g1, l2, g2⟩ := k49_open hK
  exact ⟨ad, A1, c1, A2, c2, e, hc 0 _ rfl, by rw [← add_field _ _ 1 (by omega)]; exact hc 1 _ rfl, by rw [← add_field _ _ 2 (by omega)]; exact hc 2 _ rfl, l1, g1, l2, g2⟩

def wfS63 (x : S63) : Prop := ((Lit.int .i64 x.f0).wf = true) ∧ ((x.f1.length ≤ 9223372036854775807 ∧ ∀ y ∈ x.f1, (Lit.int .i64 y).wf = true))
theorem opens63 (H : Type) (enc : TypeId × Value → H) (w : World) (base : Nat) (spare : Nat → Bool) (held : Bool) : Opens enc Try.prog w base spare held 63 k63 wfS63 :=
  opens_struct Try.underlying63 (by kernel_rfl) (opensF_cons rfl (by kernel_rfl) rfl (opens_int Try.underlying3) (opensF_one rfl (by kernel_rfl) (opens_slice Try.underlying36 (by kernel_rfl) (opens_int Try.underlying3)))) (fun x : S63 => (x.f0, x.f1)) (fun p => ⟨p.1, p.2⟩) (fun _ => rfl)
def wfS49 (x : S49) : Prop := (True) ∧ ((x.f1.length ≤ 9223372036854775807 ∧ ∀ y ∈ x.f1, (Lit.int .i64 y).wf = true)) ∧ ((x.f2.length ≤ 9223372036854775807 ∧ ∀ y ∈ x.f2, (Lit.int .i64 y).wf = true))
theorem opens49 (H : Type) (enc : TypeId × Value → H) (w : World) (base : Nat) (spare : Nat → Bool) (held : Bool) : Opens enc Try.prog w base spare held 49 k49 wfS49 :=
  opens_struct Try.underlying49 (by kernel_rfl) (opensF_cons rfl (by kernel_rfl) rfl (opens_bool Try.underlying4) (opensF_cons rfl (by kernel_rfl) rfl (opens_slice Try.underlying36 (by kernel_rfl) (opens_int Try.underlying3)) (opensF_one rfl (by kernel_rfl) (opens_slice Try.underlying36 (by kernel_rfl) (opens_int Try.underlying3))))) (fun x : S49 => (x.f0, (x.f1, x.f2))) (fun p => ⟨p.1, p.2.1, p.2.2⟩) (fun _ => rfl)
end Go.Proofs.Ytgmjolngnhdafaa.P

end
section
namespace Go.Proofs.Ytgmjolngnhdafaa.P
open Go.RowKit Go.Proofs.YtgmjolngnhdafaaW.PrintWords
def laws_FnExactShapeOk.Pure : Prop := ∀ (l0 : List (S63)) (a1 : Int) (x2 : S49), ((l0.length ≤ 9223372036854775807 ∧ ∀ y ∈ l0, wfS63 y)) → ((Lit.int .i64 a1).wf = true) → (wfS49 x2) → ∃ k, laws_FnExactShapeOk.f k l0 a1 x2.f0 x2.f1 x2.f2 = some true
end Go.Proofs.Ytgmjolngnhdafaa.P

end
section
namespace Go.Proofs.Ytgmjolngnhdafaa.Kit
open Go Go.RowKit Go.Proofs.YtgmjolngnhdafaaW.PrintWords
set_option linter.unusedVariables false

/-- From some number of rounds on the answer is one that has P. -/
def Evp {α : Type} (g : Nat → Option α) (P : α → Prop) : Prop := ∃ r, Ev g r ∧ P r
theorem Evp.pure {α : Type} {P : α → Prop} (r : α) (h : P r) : Evp (fun _ => some r) P := ⟨r, Ev.now r, h⟩
theorem Evp.bind {α β : Type} {g : Nat → Option α} {f : Nat → α → Option β} {P : α → Prop} {Q : β → Prop} (h : Evp g P) (k : ∀ a, P a → Evp (fun n => f n a) Q) : Evp (fun n => (g n).bind (f n)) Q := by
  obtain ⟨a, ha, hp⟩ := h
  obtain ⟨r, hr, hq⟩ := k a hp
  exact ⟨r, Ev.bind ha hr, hq⟩
theorem Evp.step {α : Type} {g f : Nat → Option α} {P : α → Prop} (h : ∀ k, g (k + 1) = f k) (k : Evp f P) : Evp g P := by
  obtain ⟨r, hr, hp⟩ := k
  exact ⟨r, Ev.step h hr, hp⟩
theorem Evp.congr {α : Type} {g f : Nat → Option α} {P : α → Prop} (h : ∀ k, g k = f k) (k : Evp f P) : Evp g P := by
  obtain ⟨r, hr, hp⟩ := k
  exact ⟨r, Ev.congr h hr, hp⟩
theorem Evp.mono {α : Type} {g : Nat → Option α} {P Q : α → Prop} (h : Evp g P) (hpq : ∀ r, P r → Q r) : Evp g Q := by
  obtain ⟨r, hr, hp⟩ := h
  exact ⟨r, hr, hpq r hp⟩
theorem Evp.yes {α : Type} {c : Prop} [Decidable c] {f g : Nat → Option α} {P : α → Prop} (hc : c) (h : Evp f P) : Evp (fun n => if c then f n else g n) P := by
  simp only [if_pos hc]; exact h
theorem Evp.no {α : Type} {c : Prop} [Decidable c] {f g : Nat → Option α} {P : α → Prop} (hc : ¬ c) (h : Evp g P) : Evp (fun n => if c then f n else g n) P := by
  simp only [if_neg hc]; exact h
theorem Evp.ite {α : Type} {c : Prop} [Decidable c] {f g : Nat → Option α} {P : α → Prop} (h : c → Evp f P) (k : ¬ c → Evp g P) : Evp (fun n => if c then f n else g n) P := by
  by_cases hc : c
  · exact Evp.yes hc (h hc)
  · exact Evp.no hc (k hc)
theorem Evp.ev {α : Type} {g : Nat → Option α} {r : α} (h : Ev g r) : Evp g (fun x => x = r) := ⟨r, h, rfl⟩
theorem Ev.of_evp {α : Type} {g : Nat → Option α} {r : α} (h : Evp g (fun x => x = r)) : Ev g r := by
  obtain ⟨x, hx, rfl⟩ := h
  exact hx
theorem Evp.const {α : Type} {o : Option α} {r : α} {P : α → Prop} (h : o = some r) (hp : P r) : Evp (fun _ => o) P := ⟨r, ⟨0, fun _ _ => h⟩, hp⟩
theorem Evp.rounds {α : Type} {g : Nat → Option α} {r : α} (h : Evp g (fun x => x = r)) : ∃ k, g k = some r := (Ev.of_evp h).rounds
/-- Two that come to answers. -/
theorem Evp.and {α : Type} {g : Nat → Option α} {P Q : α → Prop} (h : Evp g P) (k : Evp g Q) : Evp g (fun x => P x ∧ Q x) := by
  obtain ⟨r, ⟨K, hr⟩, hp⟩ := h
  obtain ⟨r', ⟨K', hr'⟩, hq⟩ := k
  have e : r = r' := Option.some.inj ((hr (max K K') (by omega)).symm.trans (hr' (max K K') (by omega)))
  subst e
  exact ⟨r, ⟨K, hr⟩, hp, hq⟩

/-- A loop over places, by what is left. -/
theorem Evp.for_ {ρ : Type} {n : Nat} {g : Nat → Nat → Option ρ} {R : Nat → ρ → Prop} (hend : Evp (g n) (R n)) (hstep : ∀ i, i < n → Evp (g (i + 1)) (R (i + 1)) → Evp (g i) (R i)) : ∀ i, i ≤ n → Evp (g i) (R i) := by
  have key : ∀ d i, i + d = n → Evp (g i) (R i) := by
    intro d
    induction d with
    | zero => intro i hi; have : i = n := by omega
              subst this; exact hend
    | succ d ih => intro i hi; exact hstep i (by omega) (ih (i + 1) (by omega))
  intro i hi
  exact key (n - i) i (by omega)
/-- A loop over places with a state. -/
theorem Evp.fors {σ ρ : Type} {n : Nat} {g : Nat → σ → Nat → Option ρ} {I : Nat → σ → Prop} {R : Nat → σ → ρ → Prop} (hend : ∀ s, I n s → Evp (g n s) (R n s))
    (hstep : ∀ i, i < n → (∀ s, I (i + 1) s → Evp (g (i + 1) s) (R (i + 1) s)) → ∀ s, I i s → Evp (g i s) (R i s)) : ∀ i, i ≤ n → ∀ s, I i s → Evp (g i s) (R i s) := by
  have key : ∀ d i, i + d = n → ∀ s, I i s → Evp (g i s) (R i s) := by
    intro d
    induction d with
    | zero => intro i hi; have : i = n := by omega
              subst this; exact hend
    | succ d ih => intro i hi; exact hstep i (by omega) (ih (i + 1) (by omega))
  intro i hi
  exact key (n - i) i (by omega)
theorem drop_at {α : Type} {xs : List α} {i : Nat} (h : i < xs.length) : xs.drop i = xs[i] :: xs.drop (i + 1) := List.drop_eq_getElem_cons h
theorem getD_at {α : Type} {xs : List α} {i : Nat} (h : i < xs.length) (d : α) : xs.getD i d = xs[i] := by
  rw [List.getD_eq_getElem?_getD, List.getElem?_eq_getElem h]; rfl
theorem w64' {i n : Nat} (h : i < n) (hn : n ≤ 9223372036854775807) : wrap64 ((i : Int) + 1) = ((i + 1 : Nat) : Int) := by unfold wrap64; omega
theorem w64 {n : Int} (h0 : -9223372036854775808 ≤ n) (h1 : n ≤ 9223372036854775807) : wrap64 n = n := by unfold wrap64; omega
theorem tmod_pos {a b : Int} (h0 : 0 ≤ a) : Int.tmod a b = a % b := Int.tmod_eq_emod_of_nonneg h0
theorem tdiv_pos {a b : Int} (h0 : 0 ≤ a) : Int.tdiv a b = a / b := Int.tdiv_eq_ediv_of_nonneg h0
theorem tmod_lo {a b : Int} (h0 : 0 ≤ a) (hb : 0 < b) : 0 ≤ Int.tmod a b ∧ Int.tmod a b < b := by
  rw [tmod_pos h0]; exact ⟨Int.emod_nonneg _ (by omega), Int.emod_lt_of_pos _ hb⟩
theorem tmod256 (n : Int) : Int.tmod n 256 = if 0 ≤ n then n % 256 else -((-n) % 256) := by
  split
  · rename_i h; exact Int.tmod_eq_emod_of_nonneg h
  · rename_i h
    have h1 : Int.tmod (-n) 256 = (-n) % 256 := Int.tmod_eq_emod_of_nonneg (by omega)
    rw [Int.neg_tmod] at h1; omega
theorem tmod256' (n : Int) : ∃ m, Int.tmod n 256 = m ∧ (0 ≤ n ∧ m = n % 256 ∨ n < 0 ∧ m = -((-n) % 256)) := by
  refine ⟨_, tmod256 n, ?_⟩
  by_cases h : 0 ≤ n
  · exact .inl ⟨h, if_pos h⟩
  · exact .inr ⟨by omega, if_neg h⟩
theorem i8wrap (n : Int) : IntKind.i8.wrap n = (n + 128) % 256 - 128 := by
  simp [IntKind.wrap, IntKind.bits, IntKind.signed]
  omega
theorem xor_nonneg {a b : Int} (ha : 0 ≤ a) (ha' : a < 4611686018427387904) (hb : 0 ≤ b) (hb' : b < 4611686018427387904) :
    0 ≤ Go.bits .xor .i64 a b ∧ Go.bits .xor .i64 a b < 4611686018427387904 := by
  obtain ⟨x, rfl⟩ := Int.eq_ofNat_of_zero_le ha
  obtain ⟨y, rfl⟩ := Int.eq_ofNat_of_zero_le hb
  have hx : x < 2 ^ 62 := by omega
  have hy : y < 2 ^ 62 := by omega
  have hxy := Nat.xor_lt_two_pow hx hy
  have e : Go.bits .xor .i64 (x : Int) (y : Int) = ((x ^^^ y : Nat) : Int) := by
    show IntKind.i64.wrap (((BitVec.ofInt 64 (x : Int)) ^^^ (BitVec.ofInt 64 (y : Int))).toNat : Int) = _
    rw [BitVec.toNat_xor]
    have e1 : (BitVec.ofInt 64 (x : Int)).toNat = x := by simp; omega
    have e2 : (BitVec.ofInt 64 (y : Int)).toNat = y := by simp; omega
    rw [e1, e2, IntKind.wrap_i64]
    omega
  rw [e]
  omega
end Go.Proofs.Ytgmjolngnhdafaa.Kit

end
section
namespace Go.Proofs.Ytgmjolngnhdafaa.Kit
open Go Go.RowKit Go.Proofs.YtgmjolngnhdafaaW.PrintWords Go.Proofs.Ytgmjolngnhdafaa.P
set_option linter.unusedVariables false
abbrev Cls := S38
def sup (cs : List Cls) (i : Nat) : Int := (cs.getD i z38).f0
def flds (cs : List Cls) (i : Nat) : List Int := (cs.getD i z38).f1
def FieldTy (n : Nat) (t : Int) : Prop := t = 1 ∨ t = 3 ∨ t = 4 ∨ (8 ≤ t ∧ t < 8 + (n : Int))
structure ClsOk (cs : List Cls) : Prop where
  lo : 2 ≤ cs.length
  hi : cs.length ≤ 5
  root : sup cs 0 = -1 ∧ flds cs 0 = []
  fail : sup cs 1 = 0 ∧ flds cs 1 = [1]
  up : ∀ i, 2 ≤ i → i < cs.length → 0 ≤ sup cs i ∧ sup cs i < (i : Int) ∧ (flds cs i).length ≤ 2
  fld : ∀ i, i < cs.length → ∀ t ∈ flds cs i, FieldTy cs.length t
/-- a is b, or below it. -/
inductive Up (cs : List Cls) : Nat → Nat → Prop
  | refl (a : Nat) : Up cs a a
  | step {a b : Nat} (p : Nat) (hp : sup cs a = (p : Int)) (h : Up cs p b) : Up cs a b
theorem ClsOk.sup_pos {cs : List Cls} (h : ClsOk cs) {i : Nat} (h1 : 1 ≤ i) (h2 : i < cs.length) : 0 ≤ sup cs i ∧ sup cs i < (i : Int) := by
  rcases Nat.lt_or_ge i 2 with h3 | h3
  · have : i = 1 := by omega
    subst this
    rw [h.fail.1]
    decide
  · have := h.up i h3 h2
    exact ⟨this.1, this.2.1⟩
theorem ClsOk.sup_nat {cs : List Cls} (h : ClsOk cs) {i : Nat} (h1 : 1 ≤ i) (h2 : i < cs.length) : ∃ p : Nat, sup cs i = (p : Int) ∧ p < i := by
  obtain ⟨h3, h4⟩ := h.sup_pos h1 h2
  exact ⟨(sup cs i).toNat, by omega, by omega⟩
theorem ClsOk.len2 {cs : List Cls} (h : ClsOk cs) {i : Nat} (h2 : i < cs.length) : (flds cs i).length ≤ 2 := by
  rcases Nat.lt_or_ge i 2 with h3 | h3
  · rcases Nat.lt_or_ge i 1 with h4 | h4
    · have : i = 0 := by omega
      subst this
      rw [h.root.2]; decide
    · have : i = 1 := by omega
      subst this
      rw [h.fail.2]; decide
  · exact (h.up i h3 h2).2.2
theorem Up.le {cs : List Cls} (h : ClsOk cs) {a b : Nat} (hu : Up cs a b) (ha : a < cs.length) : b ≤ a := by
  induction hu with
  | refl a => exact Nat.le_refl _
  | @step a b p hp _ ih =>
    rcases Nat.eq_zero_or_pos a with h0 | h0
    · subst h0
      have := h.root.1
      omega
    · have := h.sup_pos h0 ha
      have := ih (by omega)
      omega
theorem Up.inv {cs : List Cls} {a b : Nat} (hu : Up cs a b) : a = b ∨ ∃ p : Nat, sup cs a = (p : Int) ∧ Up cs p b := by
  cases hu with
  | refl => exact .inl rfl
  | step p hp h => exact .inr ⟨p, hp, h⟩
theorem Up.trans {cs : List Cls} {a b c : Nat} (h1 : Up cs a b) (h2 : Up cs b c) : Up cs a c := by
  induction h1 with
  | refl => exact h2
  | step p hp _ ih => exact .step p hp (ih h2)
theorem Up.antisymm {cs : List Cls} (h : ClsOk cs) {a b : Nat} (ha : a < cs.length) (hb : b < cs.length) (h1 : Up cs a b) (h2 : Up cs b a) : a = b := by
  have := h1.le h ha
  have := h2.le h hb
  omega
theorem Up.root {cs : List Cls} (h : ClsOk cs) : ∀ {a : Nat}, a < cs.length → Up cs a 0 := by
  intro a
  induction a using Nat.strongRecOn with
  | _ a ih =>
    intro ha
    rcases Nat.eq_zero_or_pos a with h0 | h0
    · subst h0; exact .refl 0
    · obtain ⟨p, hp, hlt⟩ := h.sup_nat h0 ha
      exact .step p hp (ih p hlt (by omega))
/-- Of two above one, one is below the other. -/
theorem Up.line {cs : List Cls} {a b c : Nat} (h1 : Up cs a b) (h2 : Up cs a c) : Up cs b c ∨ Up cs c b := by
  induction h1 with
  | refl => exact .inl h2
  | step p hp hu ih =>
    rcases h2.inv with rfl | ⟨q, hq, hqc⟩
    · exact .inr (.step p hp hu)
    · have : p = q := by omega
      subst this
      exact ih hqc
/-- All fields of a class. -/
inductive Flds (cs : List Cls) : Nat → List Int → Prop
  | root : Flds cs 0 []
  | step {c : Nat} {l : List Int} (p : Nat) (hc : c ≠ 0) (hp : sup cs c = (p : Int)) (h : Flds cs p l) : Flds cs c (l ++ flds cs c)
theorem Flds.fn {cs : List Cls} {c : Nat} {l l' : List Int} (h : Flds cs c l) (h' : Flds cs c l') : l = l' := by
  induction h generalizing l' with
  | root =>
    cases h' with
    | root => rfl
    | step p hc _ _ => exact absurd rfl hc
  | step p hc hp _ ih =>
    cases h' with
    | root => exact absurd rfl hc
    | step q _ hq hl =>
      have : p = q := by omega
      subst this
      rw [ih hl]
theorem Flds.ex {cs : List Cls} (h : ClsOk cs) : ∀ {c : Nat}, c < cs.length → ∃ l, Flds cs c l ∧ l.length ≤ 2 * c := by
  intro c
  induction c using Nat.strongRecOn with
  | _ c ih =>
    intro hc
    rcases Nat.eq_zero_or_pos c with h0 | h0
    · subst h0; exact ⟨[], .root, by simp⟩
    · obtain ⟨p, hp, hlt⟩ := h.sup_nat h0 hc
      obtain ⟨l, hl, hn⟩ := ih p hlt (by omega)
      exact ⟨_, .step p (by omega) hp hl, by have := h.len2 hc; simp; omega⟩
theorem rdCls {cs : List Cls} (i : Nat) : rd_T38 cs (i : Int) = cs.getD i z38 := rfl
theorem rdSup {cs : List Cls} (i : Nat) : (rd_T38 cs (i : Int)).f0 = sup cs i := rfl
theorem rdFlds {cs : List Cls} (i : Nat) : (rd_T38 cs (i : Int)).f1 = flds cs i := rfl
theorem rdInt {xs : List Int} {i : Nat} (h : i < xs.length) : rd xs (i : Int) = xs[i] := getD_at h _
/-- Classes, each with not too many fields. -/
def SmallC (cs : List Cls) : Prop := cs.length ≤ 1048576 ∧ ∀ i, i < cs.length → (flds cs i).length ≤ 1048576 ∧ (∀ t ∈ flds cs i, -9223372036854775808 ≤ t ∧ t ≤ 9223372036854775807)
/-- Two answers, each told by the same. -/
theorem same_of {p : Prop} {a b : Bool} (ha : a = true ↔ p) (hb : b = true ↔ p) : a = b := by
  rw [Bool.eq_iff_iff, ha, hb]
end Go.Proofs.Ytgmjolngnhdafaa.Kit

end
section
namespace Go.Proofs.Ytgmjolngnhdafaa.P
open Go.RowKit Go.Proofs.YtgmjolngnhdafaaW.PrintWords Go.Proofs.YtgmjolngnhdafaaW.PrintLast Go.Proofs.YtgmjolngnhdafaaW.PrintMore
attribute [local go_sem] max2_int min2_int max_two min_two max_three min_three max_four min_four
set_option linter.unusedVariables false
set_option linter.unusedSimpArgs false

/-! ### impl_isClass: function 66 -/
def impl_isClass.f (l0 : List (S38)) (a1 : Int) : Option (Bool) := if a1 ≥ 0 then (some (decide (a1 < (l0.length : Int)))) else (some false)

end Go.Proofs.Ytgmjolngnhdafaa.P

end
section
namespace Go.Proofs.Ytgmjolngnhdafaa.P
open Go.RowKit Go.Proofs.YtgmjolngnhdafaaW.PrintWords Go.Proofs.YtgmjolngnhdafaaW.PrintLast Go.Proofs.YtgmjolngnhdafaaW.PrintMore
attribute [local go_sem] max2_int min2_int max_two min_two max_three min_three max_four min_four
set_option linter.unusedVariables false
set_option linter.unusedSimpArgs false

/-! ### impl_classUp: function 67 -/
def impl_classUp.l0 : Nat → List (S38) → Int → Int → Option (Bool)
  | 0, _, _, _ => none
  | k + 1, x0, x2, x7 => if x7 ≥ 0 then (if x7 = x2 then (some true) else (if 0 ≤ x7 then (if x7 < (x0.length : Int) then (impl_classUp.l0 k x0 x2 ((rd_T38 x0 x7).f0)) else (none)) else (none))) else (some false)
def impl_classUp.f (k : Nat) (l0 : List (S38)) (a1 : Int) (a2 : Int) : Option (Bool) := impl_classUp.l0 k l0 a2 a1
theorem impl_classUp.mono_l : ∀ k, (∀ y0 y1 y2, LeO (impl_classUp.l0 k y0 y1 y2) (impl_classUp.l0 (k + 1) y0 y1 y2))
  | 0 => fun _ _ _ r h => by simp [impl_classUp.l0] at h
  | k + 1 => by
    have ih0 := impl_classUp.mono_l k
    · intro y0 y1 y2
      unfold impl_classUp.l0
      repeat' first
      | (with_reducible exact ih0 _ _ _)
      | (with_reducible exact LeO.refl _)
      | (with_reducible exact LeO.none _)
      | (with_reducible refine LeO.ite ?_ ?_)
      | (with_reducible refine LeO.bind ?_ (fun _ => ?_))
      | exact ih0 _ _ _
      | exact LeO.none _
      | refine LeO.ite ?_ ?_
      | refine LeO.bind ?_ (fun _ => ?_)
theorem impl_classUp.mono : ∀ a0 a1 a2 k, LeO (impl_classUp.f k a0 a1 a2) (impl_classUp.f (k + 1) a0 a1 a2) := by
  intro a0 a1 a2 k
  have ih0 := impl_classUp.mono_l k
  unfold impl_classUp.f
  repeat' first
      | (with_reducible exact ih0 _ _ _)
      | (with_reducible exact LeO.refl _)
      | (with_reducible exact LeO.none _)
      | (with_reducible refine LeO.ite ?_ ?_)
      | (with_reducible refine LeO.bind ?_ (fun _ => ?_))
      | exact ih0 _ _ _
      | exact LeO.none _
      | refine LeO.ite ?_ ?_
      | refine LeO.bind ?_ (fun _ => ?_)

end Go.Proofs.Ytgmjolngnhdafaa.P

end
section
namespace Go.Proofs.Ytgmjolngnhdafaa.P
open Go.RowKit Go.Proofs.YtgmjolngnhdafaaW.PrintWords Go.Proofs.YtgmjolngnhdafaaW.PrintLast Go.Proofs.YtgmjolngnhdafaaW.PrintMore
attribute [local go_sem] max2_int min2_int max_two min_two max_three min_three max_four min_four
set_option linter.unusedVariables false
set_option linter.unusedSimpArgs false

/-! ### impl_ClassUp: function 28 -/
def impl_ClassUp.f (k : Nat) (l0 : List (S38)) (a1 : Int) (a2 : Int) : Option (Bool) := (impl_ClassesOk.f k l0).bind fun t236 => (if t236 = true then ((impl_isClass.f l0 a1).bind fun t237 => (if t237 = true then ((impl_isClass.f l0 a2).bind fun t238 => (if t238 = true then ((impl_classUp.f k l0 a1 a2).bind fun t239 => (some t239)) else (some false))) else (some false))) else (some false))
theorem impl_ClassUp.mono : ∀ a0 a1 a2 k, LeO (impl_ClassUp.f k a0 a1 a2) (impl_ClassUp.f (k + 1) a0 a1 a2) := by
  intro a0 a1 a2 k
  unfold impl_ClassUp.f
  repeat' first
      | (with_reducible exact impl_ClassesOk.mono _ _)
      | (with_reducible exact impl_classUp.mono _ _ _ _)
      | (with_reducible exact LeO.refl _)
      | (with_reducible exact LeO.none _)
      | (with_reducible refine LeO.ite ?_ ?_)
      | (with_reducible refine LeO.bind ?_ (fun _ => ?_))
      | exact impl_ClassesOk.mono _ _
      | exact impl_classUp.mono _ _ _ _
      | exact LeO.none _
      | refine LeO.ite ?_ ?_
      | refine LeO.bind ?_ (fun _ => ?_)

end Go.Proofs.Ytgmjolngnhdafaa.P

end
section
namespace Go.Proofs.Ytgmjolngnhdafaa.P
open Go.RowKit Go.Proofs.YtgmjolngnhdafaaW.PrintWords Go.Proofs.YtgmjolngnhdafaaW.PrintLast Go.Proofs.YtgmjolngnhdafaaW.PrintMore
attribute [local go_sem] max2_int min2_int max_two min_two max_three min_three max_four min_four
set_option linter.unusedVariables false
set_option linter.unusedSimpArgs false

/-! ### spec_l2Is: function 68 -/
def spec_l2Is.f (k : Nat) (l0 : List (S38)) (a1 : Int) : Option (Bool) := (spec_ClassesOk.f k l0).bind fun t240 => (if t240 = true then ((spec_l6In.f a1 0 (wrap64 ((l0.length : Int) - 1))).bind fun t241 => (some t241)) else (some false))
theorem spec_l2Is.mono : ∀ a0 a1 k, LeO (spec_l2Is.f k a0 a1) (spec_l2Is.f (k + 1) a0 a1) := by
  intro a0 a1 k
  unfold spec_l2Is.f
  repeat' first
      | (with_reducible exact spec_ClassesOk.mono _ _)
      | (with_reducible exact LeO.refl _)
      | (with_reducible exact LeO.none _)
      | (with_reducible refine LeO.ite ?_ ?_)
      | (with_reducible refine LeO.bind ?_ (fun _ => ?_))
      | exact spec_ClassesOk.mono _ _
      | exact LeO.none _
      | refine LeO.ite ?_ ?_
      | refine LeO.bind ?_ (fun _ => ?_)

end Go.Proofs.Ytgmjolngnhdafaa.P

end
section
namespace Go.Proofs.Ytgmjolngnhdafaa.P
open Go.RowKit Go.Proofs.YtgmjolngnhdafaaW.PrintWords Go.Proofs.YtgmjolngnhdafaaW.PrintLast Go.Proofs.YtgmjolngnhdafaaW.PrintMore
attribute [local go_sem] max2_int min2_int max_two min_two max_three min_three max_four min_four
set_option linter.unusedVariables false
set_option linter.unusedSimpArgs false

/-! ### spec_l2Up: function 69 -/
def spec_l2Up.l0 : Nat → List (S38) → Int → Int → Option (Bool)
  | 0, _, _, _ => none
  | k + 1, x0, x1, x2 => if x1 > x2 then (if 0 ≤ x1 then (if x1 < (x0.length : Int) then (spec_l2Up.l0 k x0 ((rd_T38 x0 x1).f0) x2) else (none)) else (none)) else (some (x1 == x2))
def spec_l2Up.f (k : Nat) (l0 : List (S38)) (a1 : Int) (a2 : Int) : Option (Bool) := spec_l2Up.l0 k l0 a1 a2
theorem spec_l2Up.mono_l : ∀ k, (∀ y0 y1 y2, LeO (spec_l2Up.l0 k y0 y1 y2) (spec_l2Up.l0 (k + 1) y0 y1 y2))
  | 0 => fun _ _ _ r h => by simp [spec_l2Up.l0] at h
  | k + 1 => by
    have ih0 := spec_l2Up.mono_l k
    · intro y0 y1 y2
      unfold spec_l2Up.l0
      repeat' first
      | (with_reducible exact ih0 _ _ _)
      | (with_reducible exact LeO.refl _)
      | (with_reducible exact LeO.none _)
      | (with_reducible refine LeO.ite ?_ ?_)
      | (with_reducible refine LeO.bind ?_ (fun _ => ?_))
      | exact ih0 _ _ _
      | exact LeO.none _
      | refine LeO.ite ?_ ?_
      | refine LeO.bind ?_ (fun _ => ?_)
theorem spec_l2Up.mono : ∀ a0 a1 a2 k, LeO (spec_l2Up.f k a0 a1 a2) (spec_l2Up.f (k + 1) a0 a1 a2) := by
  intro a0 a1 a2 k
  have ih0 := spec_l2Up.mono_l k
  unfold spec_l2Up.f
  repeat' first
      | (with_reducible exact ih0 _ _ _)
      | (with_reducible exact LeO.refl _)
      | (with_reducible exact LeO.none _)
      | (with_reducible refine LeO.ite ?_ ?_)
      | (with_reducible refine LeO.bind ?_ (fun _ => ?_))
      | exact ih0 _ _ _
      | exact LeO.none _
      | refine LeO.ite ?_ ?_
      | refine LeO.bind ?_ (fun _ => ?_)

end Go.Proofs.Ytgmjolngnhdafaa.P

end
section
namespace Go.Proofs.Ytgmjolngnhdafaa.P
open Go.RowKit Go.Proofs.YtgmjolngnhdafaaW.PrintWords Go.Proofs.YtgmjolngnhdafaaW.PrintLast Go.Proofs.YtgmjolngnhdafaaW.PrintMore
attribute [local go_sem] max2_int min2_int max_two min_two max_three min_three max_four min_four
set_option linter.unusedVariables false
set_option linter.unusedSimpArgs false

/-! ### spec_ClassUp: function 29 -/
def spec_ClassUp.f (k : Nat) (l0 : List (S38)) (a1 : Int) (a2 : Int) : Option (Bool) := (spec_l2Is.f k l0 a1).bind fun t243 => (if t243 = true then ((spec_l2Is.f k l0 a2).bind fun t244 => (if t244 = true then ((spec_l2Up.f k l0 a1 a2).bind fun t245 => (some t245)) else (some false))) else (some false))
theorem spec_ClassUp.mono : ∀ a0 a1 a2 k, LeO (spec_ClassUp.f k a0 a1 a2) (spec_ClassUp.f (k + 1) a0 a1 a2) := by
  intro a0 a1 a2 k
  unfold spec_ClassUp.f
  repeat' first
      | (with_reducible exact spec_l2Is.mono _ _ _)
      | (with_reducible exact spec_l2Up.mono _ _ _ _)
      | (with_reducible exact LeO.refl _)
      | (with_reducible exact LeO.none _)
      | (with_reducible refine LeO.ite ?_ ?_)
      | (with_reducible refine LeO.bind ?_ (fun _ => ?_))
      | exact spec_l2Is.mono _ _ _
      | exact spec_l2Up.mono _ _ _ _
      | exact LeO.none _
      | refine LeO.ite ?_ ?_
      | refine LeO.bind ?_ (fun _ => ?_)

end Go.Proofs.Ytgmjolngnhdafaa.P

end
section
namespace Go.Proofs.Ytgmjolngnhdafaa.Kit
open Go Go.RowKit Go.Proofs.YtgmjolngnhdafaaW.PrintWords Go.Proofs.Ytgmjolngnhdafaa.P
set_option linter.unusedVariables false
theorem in_eq (a lo hi : Int) : spec_l6In.f a lo hi = some (decide (lo ≤ a ∧ a ≤ hi)) := by
  unfold spec_l6In.f
  by_cases h : lo ≤ a <;> simp [h]
theorem kindOf_eq {n : Nat} {t : Int} (hn : n ≤ 1000000000) (h0 : -9223372036854775808 ≤ t) (h1 : t ≤ 9223372036854775807) :
    impl_kindOf.f (n : Int) t = some (if (0 ≤ t ∧ t ≤ 4) ∨ (8 ≤ t ∧ t < 8 + (n : Int)) then t else -1) := by
  unfold impl_kindOf.f
  rw [if_pos ⟨by omega, by omega, h0, h1⟩]
  repeat' split
  all_goals first | omega | (congr 1; omega) | rfl
theorem fieldType_eq {n : Nat} {t : Int} (hn : n ≤ 1000000000) (h0 : -9223372036854775808 ≤ t) (h1 : t ≤ 9223372036854775807) :
    ∃ b, impl_fieldType.f (n : Int) t = some b ∧ (b = true ↔ FieldTy n t) := by
  unfold impl_fieldType.f
  rw [kindOf_eq hn h0 h1, Option.bind_some]
  refine ⟨_, rfl, ?_⟩
  rw [decide_eq_true_iff]
  unfold FieldTy
  split <;> omega
theorem field_eq {cs : List Cls} {t : Int} (hn : cs.length ≤ 1000000000) : ∃ b, spec_l2Field.f cs t = some b ∧ (b = true ↔ FieldTy cs.length t) := by
  unfold spec_l2Field.f FieldTy
  rw [in_eq, w64 (n := 8 + (cs.length : Int)) (by omega) (by omega), w64 (by omega) (by omega)]
  by_cases h1 : t = 1
  · exact ⟨true, by rw [if_pos h1], by simp [h1]⟩
  rw [if_neg h1]
  by_cases h2 : t = 3
  · exact ⟨true, by rw [if_pos h2], by simp [h2]⟩
  rw [if_neg h2]
  by_cases h3 : t = 4
  · exact ⟨true, by rw [if_pos h3], by simp [h3]⟩
  rw [if_neg h3]
  refine ⟨_, rfl, ?_⟩
  simp only [h1, h2, h3, false_or, decide_eq_true_iff]
  omega
theorem impl_isClass_eq (cs : List Cls) (a : Int) : ∃ b, impl_isClass.f cs a = some b ∧ (b = true ↔ 0 ≤ a ∧ a < (cs.length : Int)) := by
  unfold impl_isClass.f
  by_cases h : a ≥ 0
  · rw [if_pos h]; exact ⟨_, rfl, by rw [decide_eq_true_iff]; omega⟩
  · rw [if_neg h]; exact ⟨_, rfl, by simp; omega⟩
/-- What the reference asks of one class. -/
def Shp (cs : List Cls) (c : Nat) : Prop := (if c = 0 then sup cs 0 = -1 ∧ (flds cs 0).length = 0 else if c = 1 then sup cs 1 = 0 ∧ flds cs 1 = [1] else 0 ≤ sup cs c ∧ sup cs c < (c : Int) ∧ (flds cs c).length ≤ 2)
theorem shp0 {cs : List Cls} : Shp cs 0 ↔ sup cs 0 = -1 ∧ (flds cs 0).length = 0 := by unfold Shp; rw [if_pos rfl]
theorem shp1 {cs : List Cls} : Shp cs 1 ↔ sup cs 1 = 0 ∧ flds cs 1 = [1] := by unfold Shp; rw [if_neg (by decide), if_pos rfl]
theorem shp2 {cs : List Cls} {c : Nat} (h : 2 ≤ c) : Shp cs c ↔ 0 ≤ sup cs c ∧ sup cs c < (c : Int) ∧ (flds cs c).length ≤ 2 := by unfold Shp; rw [if_neg (by omega), if_neg (by omega)]
def At (cs : List Cls) (c : Nat) : Prop := (∀ t ∈ flds cs c, FieldTy cs.length t) ∧ Shp cs c
theorem clsOk_iff {cs : List Cls} : ClsOk cs ↔ 2 ≤ cs.length ∧ cs.length ≤ 5 ∧ ∀ c, c < cs.length → At cs c := by
  constructor
  · intro h
    refine ⟨h.lo, h.hi, fun c hc => ⟨h.fld c hc, ?_⟩⟩
    rcases Nat.lt_or_ge c 2 with h2 | h2
    · rcases Nat.lt_or_ge c 1 with h1 | h1
      · have : c = 0 := by omega
        subst this
        exact shp0.2 ⟨h.root.1, by rw [h.root.2]; rfl⟩
      · have : c = 1 := by omega
        subst this
        exact shp1.2 h.fail
    · exact (shp2 h2).2 (h.up c h2 hc)
  · intro ⟨h1, h2, h3⟩
    have a0 := shp0.1 (h3 0 (by omega)).2
    have a1 := shp1.1 (h3 1 (by omega)).2
    exact ⟨h1, h2, ⟨a0.1, List.eq_nil_of_length_eq_zero a0.2⟩, a1, fun i hi hl => (shp2 hi).1 (h3 i hl).2, fun i hi => (h3 i hi).1⟩
theorem spec_class {cs : List Cls} (hs : SmallC cs) {c : Nat} (hc : c < cs.length) : Evp (fun k => spec_l2Class.f k cs (c : Int)) (fun r => r = true ↔ At cs c) := by
  unfold spec_l2Class.f
  refine Evp.yes (by omega) (Evp.yes (by omega) ?_)
  rw [rdSup, rdFlds]
  have hl := (hs.2 c hc).1
  have hl0 := hs.1
  have key : ∀ i, i ≤ (flds cs c).length → Evp (fun k => spec_l2Class.l0 k cs (c : Int) (i : Int) (sup cs c) (flds cs c)) (fun r => r = true ↔ (∀ t ∈ (flds cs c).drop i, FieldTy cs.length t) ∧ Shp cs c) := by
    refine Evp.for_ ?_ (fun i hi ih => ?_)
    · refine Evp.step (f := fun k => _) (fun k => by rw [spec_l2Class.l0, in_eq]) (Evp.no (by omega) ?_)
      rw [List.drop_length]
      simp only [List.not_mem_nil, false_implies, implies_true, true_and]
      refine Evp.ite (fun h0 => ?_) (fun h0 => ?_)
      · have : c = 0 := by omega
        subst this
        rw [shp0]
        refine Evp.ite (fun h => Evp.pure _ ?_) (fun h => Evp.pure _ (by simp [h]))
        rw [beq_iff_eq]
        constructor
        · intro h2; exact ⟨h, by omega⟩
        · intro h2; omega
      · refine Evp.ite (fun h1 => ?_) (fun h1 => ?_)
        · have : c = 1 := by omega
          subst this
          rw [shp1]
          refine Evp.ite (fun h => ?_) (fun h => Evp.pure _ (by simp [h]))
          refine Evp.ite (fun h2 => ?_) (fun h2 => Evp.pure _ ?_)
          · refine Evp.yes (by omega) (Evp.pure _ ?_)
            obtain ⟨x, hx⟩ := List.length_eq_one_iff.1 (by omega : (flds cs 1).length = 1)
            rw [hx, show rd [x] 0 = x from rfl, beq_iff_eq]
            simp [h]
          · constructor
            · intro h3; cases h3
            · intro h3; rw [h3.2] at h2; exact absurd rfl h2
        · rw [shp2 (by omega)]
          refine Evp.congr (f := fun k => if 0 ≤ sup cs c ∧ sup cs c ≤ (c : Int) - 1 then some (decide (((flds cs c).length : Int) ≤ 2)) else some false) (fun k => by rw [w64 (n := (c : Int) - 1) (by omega) (by omega), Option.bind_some]; simp only [decide_eq_true_iff]) ?_
          refine Evp.ite (fun h => Evp.pure _ ?_) (fun h => Evp.pure _ ?_)
          · simp only [decide_eq_true_iff]
            omega
          · constructor
            · intro h3; cases h3
            · intro h3; omega
    · obtain ⟨b, hb, hb2⟩ := field_eq (cs := cs) (t := (flds cs c)[i]) (by omega)
      refine Evp.step (f := fun k => _) (fun k => by rw [spec_l2Class.l0, rdInt hi, hb, Option.bind_some]) (Evp.yes (by omega) (Evp.yes (by omega) ?_))
      rw [w64' hi (by omega), drop_at hi]
      refine Evp.ite (fun h => ih.mono fun r hr => ?_) (fun h => Evp.pure _ ?_)
      · rw [hr, List.forall_mem_cons]
        exact ⟨fun h2 => ⟨⟨hb2.1 h, h2.1⟩, h2.2⟩, fun h2 => ⟨h2.1.2, h2.2⟩⟩
      · rw [List.forall_mem_cons]
        exact ⟨fun h2 => (by cases h2), fun h2 => absurd (hb2.2 h2.1.1) h⟩
  exact key 0 (Nat.zero_le _)
theorem spec_classesOk {cs : List Cls} (hs : SmallC cs) : Evp (fun k => spec_ClassesOk.f k cs) (fun r => r = true ↔ ClsOk cs) := by
  have hl0 := hs.1
  unfold spec_ClassesOk.f
  rw [in_eq]
  simp only [Option.bind_some]
  refine Evp.ite (fun h => ?_) (fun h => Evp.pure _ ?_)
  · simp only [decide_eq_true_iff] at h
    have key : ∀ i, i ≤ cs.length → Evp (fun k => spec_ClassesOk.l0 k cs (i : Int)) (fun r => r = true ↔ ∀ c, i ≤ c → c < cs.length → At cs c) := by
      refine Evp.for_ ?_ (fun i hi ih => ?_)
      · refine Evp.step (f := fun k => _) (fun k => by rw [spec_ClassesOk.l0]) (Evp.no (by omega) (Evp.pure _ ?_))
        simp only [true_iff]
        intro c h1 h2; omega
      · refine Evp.step (f := fun k => _) (fun k => by rw [spec_ClassesOk.l0]) (Evp.yes (by omega) ?_)
        refine Evp.bind (spec_class hs hi) fun b hb => ?_
        rw [w64' hi (by omega)]
        refine Evp.ite (fun h1 => ih.mono fun r hr => ?_) (fun h1 => Evp.pure _ ?_)
        · rw [hr]
          constructor
          · intro h2 c h3 h4
            rcases Nat.lt_or_ge i c with h5 | h5
            · exact h2 c h5 h4
            · have : c = i := by omega
              subst this
              exact hb.1 h1
          · intro h2 c h3 h4; exact h2 c (by omega) h4
        · constructor
          · intro h2; cases h2
          · intro h2; exact absurd (hb.2 (h2 i (Nat.le_refl _) hi)) h1
    refine (key 0 (Nat.zero_le _)).mono fun r hr => ?_
    rw [hr, clsOk_iff]
    constructor
    · intro h2; exact ⟨by omega, by omega, fun c hc => h2 c (Nat.zero_le _) hc⟩
    · intro h2 c _ hc; exact h2.2.2 c hc
  · simp only [decide_eq_true_iff] at h
    constructor
    · intro h2; cases h2
    · intro h2; have := h2.lo; have := h2.hi; omega
theorem impl_classesOk {cs : List Cls} (hs : SmallC cs) : Evp (fun k => impl_ClassesOk.f k cs) (fun r => r = true ↔ ClsOk cs) := by
  have hl0 := hs.1
  have no : ∀ {p : Prop}, ¬ p → ((false = true) ↔ p) := fun h => ⟨fun h2 => (by cases h2), fun h2 => absurd h2 h⟩
  have jno : ¬ (2 ≤ cs.length ∧ cs.length ≤ 5) → Evp (fun k => impl_ClassesOk.j0 k cs true) (fun r => r = true ↔ ClsOk cs) := fun h =>
    Evp.step (f := fun k => _) (fun k => by rw [impl_ClassesOk.j0]) (Evp.yes rfl (Evp.pure _ (no fun h2 => h ⟨h2.lo, h2.hi⟩)))
  unfold impl_ClassesOk.f
  refine Evp.ite (fun h => jno (by omega)) (fun h => ?_)
  by_cases h5 : ¬ cs.length ≤ 5
  · rw [decide_eq_true (by omega)]; exact jno (by omega)
  rw [decide_eq_false (by omega)]
  have h2 : 2 ≤ cs.length := by omega
  -- the loop over all classes
  have loop : (sup cs 0 = -1 ∧ flds cs 0 = []) → (sup cs 1 = 0 ∧ flds cs 1 = [1]) → ∀ i, i ≤ cs.length → Evp (fun k => impl_ClassesOk.l0 k cs cs (cs.length : Int) (i : Int)) (fun r => r = true ↔ ∀ c, i ≤ c → c < cs.length → At cs c) := by
    intro hr hf
    refine Evp.for_ ?_ (fun i hi ih => ?_)
    · refine Evp.step (f := fun k => _) (fun k => by rw [impl_ClassesOk.l0]) (Evp.no (by omega) (Evp.pure _ ?_))
      simp only [true_iff]
      intro c h1 h2; omega
    · have ih2 : At cs i → ∀ r : Bool, (r = true ↔ ∀ c, i + 1 ≤ c → c < cs.length → At cs c) → (r = true ↔ ∀ c, i ≤ c → c < cs.length → At cs c) := by
        intro ha r hr
        rw [hr]
        constructor
        · intro h2 c h3 h4
          rcases Nat.lt_or_ge i c with h5 | h5
          · exact h2 c h5 h4
          · have : c = i := by omega
            subst this
            exact ha
        · intro h2 c h3 h4; exact h2 c (by omega) h4
      have hno : ¬ At cs i → ((false = true) ↔ ∀ c, i ≤ c → c < cs.length → At cs c) := fun h => no fun h2 => h (h2 i (Nat.le_refl _) hi)
      have hl := (hs.2 i hi).1
      have hb := (hs.2 i hi).2
      -- the loop over a class's fields
      have fl : Shp cs i →
          ∀ j, j ≤ (flds cs i).length → (∀ t ∈ (flds cs i).take j, FieldTy cs.length t) → Evp (fun k => impl_ClassesOk.l1 k cs cs (cs.length : Int) (i : Int) (flds cs i) ((flds cs i).length : Int) (j : Int)) (fun r => r = true ↔ ∀ c, i ≤ c → c < cs.length → At cs c) := by
        intro hc
        have key : ∀ j, j ≤ (flds cs i).length → ∀ _ : Unit, (∀ t ∈ (flds cs i).take j, FieldTy cs.length t) → Evp (fun k => impl_ClassesOk.l1 k cs cs (cs.length : Int) (i : Int) (flds cs i) ((flds cs i).length : Int) (j : Int)) (fun r => r = true ↔ ∀ c, i ≤ c → c < cs.length → At cs c) := by
          refine Evp.fors (g := fun j (_ : Unit) k => impl_ClassesOk.l1 k cs cs (cs.length : Int) (i : Int) (flds cs i) ((flds cs i).length : Int) (j : Int)) (I := fun j _ => ∀ t ∈ (flds cs i).take j, FieldTy cs.length t) (R := fun _ _ r => r = true ↔ ∀ c, i ≤ c → c < cs.length → At cs c) (fun _ hI => ?_) (fun j hj ihj _ hI => ?_)
          · refine Evp.step (f := fun k => _) (fun k => by rw [impl_ClassesOk.l1]) (Evp.no (by omega) ?_)
            rw [w64' hi (by omega)]
            refine ih.mono (ih2 ⟨?_, hc⟩)
            simpa using hI
          · obtain ⟨b, hb1, hb2⟩ := fieldType_eq (n := cs.length) (t := (flds cs i)[j]) (by omega) (hb _ (List.getElem_mem hj)).1 (hb _ (List.getElem_mem hj)).2
            refine Evp.step (f := fun k => _) (fun k => by rw [impl_ClassesOk.l1, rdInt hj, hb1, Option.bind_some]) (Evp.yes (by omega) (Evp.yes (by omega) (Evp.yes (by omega) ?_)))
            rw [w64' hj (by omega)]
            refine Evp.ite (fun h => ihj () ?_) (fun h => Evp.pure _ (hno ?_))
            · rw [List.take_succ_eq_append_getElem hj]
              intro t ht
              rcases List.mem_append.1 ht with ht | ht
              · exact hI t ht
              · rw [List.mem_singleton.1 ht]; exact hb2.1 h
            · intro ha; exact h (hb2.2 (ha.1 _ (List.getElem_mem hj)))
        exact fun j hj => key j hj ()
      have j4 : ∀ b : Bool, (b = true ↔ 2 ≤ i ∧ ¬ (0 ≤ sup cs i ∧ sup cs i < (i : Int))) → Evp (fun k => impl_ClassesOk.j4 k cs cs (cs.length : Int) (i : Int) b (sup cs i) (flds cs i)) (fun r => r = true ↔ ∀ c, i ≤ c → c < cs.length → At cs c) := by
        intro b hb4
        refine Evp.step (f := fun k => _) (fun k => by rw [impl_ClassesOk.j4]) ?_
        refine Evp.ite (fun h => Evp.pure _ (hno ?_)) (fun h => ?_)
        · intro ha
          have h6 := hb4.1 h
          have := (shp2 h6.1).1 ha.2
          omega
        · have h6 : ¬ (2 ≤ i ∧ ¬ (0 ≤ sup cs i ∧ sup cs i < (i : Int))) := fun h7 => h (hb4.2 h7)
          refine Evp.ite (fun h7 => Evp.pure _ (hno ?_)) (fun h7 => fl ?_ 0 (Nat.zero_le _) (by simp))
          · intro ha
            rcases Nat.lt_or_ge i 2 with h8 | h8
            · rcases Nat.lt_or_ge i 1 with h9 | h9
              · have : i = 0 := by omega
                subst this
                have := (shp0.1 ha.2).2
                omega
              · have : i = 1 := by omega
                subst this
                rw [hf.2] at h7; exact absurd h7 (by decide)
            · have := (shp2 h8).1 ha.2
              omega
          · rcases Nat.lt_or_ge i 2 with h8 | h8
            · rcases Nat.lt_or_ge i 1 with h9 | h9
              · have : i = 0 := by omega
                subst this
                exact shp0.2 ⟨hr.1, by rw [hr.2]; rfl⟩
              · have : i = 1 := by omega
                subst this
                exact shp1.2 hf
            · exact (shp2 h8).2 (by omega)
      refine Evp.step (f := fun k => _) (fun k => by rw [impl_ClassesOk.l0, rdSup, rdFlds]) (Evp.yes (by omega) (Evp.yes (by omega) (Evp.yes (by omega) ?_)))
      refine Evp.ite (fun h => Evp.ite (fun h8 => j4 _ ?_) (fun h8 => j4 _ ?_)) (fun h => j4 _ ?_)
      · simp; omega
      · rw [decide_eq_true_iff]; omega
      · simp; omega
  have done : (sup cs 0 = -1 ∧ flds cs 0 = []) → (sup cs 1 = 0 ∧ flds cs 1 = [1]) → Evp (fun k => impl_ClassesOk.l0 k cs cs (cs.length : Int) 0) (fun r => r = true ↔ ClsOk cs) := by
    intro hr hf
    refine (loop hr hf 0 (Nat.zero_le _)).mono fun r hr2 => ?_
    rw [hr2, clsOk_iff]
    constructor
    · intro h3; exact ⟨by omega, by omega, fun c hc => h3 c (Nat.zero_le _) hc⟩
    · intro h3 c _ hc; exact h3.2.2 c hc
  have j2 : (sup cs 0 = -1 ∧ flds cs 0 = []) → ∀ b : Bool, (b = false ↔ (sup cs 1 = 0 ∧ flds cs 1 = [1])) → Evp (fun k => impl_ClassesOk.j2 k cs b) (fun r => r = true ↔ ClsOk cs) := by
    intro hr b hb
    refine Evp.step (f := fun k => _) (fun k => by rw [impl_ClassesOk.j2]) ?_
    refine Evp.ite (fun h => Evp.pure _ (no fun h3 => ?_)) (fun h => done hr (hb.1 (by simpa using h)))
    have := hb.2 h3.fail
    rw [h] at this; cases this
  have j1 : ∀ b : Bool, (b = false ↔ (sup cs 0 = -1 ∧ flds cs 0 = [])) → Evp (fun k => impl_ClassesOk.j1 k cs b) (fun r => r = true ↔ ClsOk cs) := by
    intro b hb
    refine Evp.step (f := fun k => _) (fun k => by rw [impl_ClassesOk.j1, show (1 : Int) = ((1 : Nat) : Int) from rfl, rdSup, rdFlds]) ?_
    refine Evp.ite (fun h => Evp.pure _ (no fun h3 => ?_)) (fun h => ?_)
    · have := hb.2 h3.root
      rw [h] at this; cases this
    · have hr := hb.1 (by simpa using h)
      refine Evp.yes (by omega) (Evp.ite (fun h1 => Evp.ite (fun h3 => Evp.yes (by omega) (j2 hr _ ?_)) (fun h3 => j2 hr _ ?_)) (fun h1 => j2 hr _ ?_))
      · obtain ⟨x, hx⟩ := List.length_eq_one_iff.1 (by omega : (flds cs 1).length = 1)
        rw [hx, show rd [x] 0 = x from rfl]
        simp [h1]
      · constructor
        · intro h4; cases h4
        · intro h4; rw [h4.2] at h3; exact absurd rfl h3
      · constructor
        · intro h4; cases h4
        · intro h4; exact absurd h4.1 h1
  refine Evp.step (f := fun k => _) (fun k => by rw [impl_ClassesOk.j0, show (0 : Int) = ((0 : Nat) : Int) from rfl, rdSup, rdFlds]) (Evp.no (by decide) (Evp.yes (by omega) ?_))
  refine Evp.ite (fun h1 => j1 _ ?_) (fun h1 => j1 _ ?_)
  · constructor
    · intro h3
      have : (flds cs 0).length = 0 := by simpa using h3
      exact ⟨h1, List.eq_nil_of_length_eq_zero this⟩
    · intro h3; rw [h3.2]; rfl
  · constructor
    · intro h3; cases h3
    · intro h3; exact absurd h3.1 h1
end Go.Proofs.Ytgmjolngnhdafaa.Kit

end
section
namespace Go.Proofs.Ytgmjolngnhdafaa.P
open Go Go.RowKit Go.Proofs.YtgmjolngnhdafaaW.PrintWords
/-- The number of a kind that is one. -/
def KindOk (r : Int) : Prop := (0 ≤ r ∧ r ≤ 4) ∨ (8 ≤ r ∧ r ≤ 2000000000)
instance (r : Int) : Decidable (KindOk r) := by unfold KindOk; infer_instance
def impl_kindIn.f (k : Nat) (l0 : List S38) (a b : Int) : Option Bool :=
  if KindOk a ∧ KindOk b then
    (if a = b then some true else if b = 0 then some true else if a = 2 then some (b != 1) else if a = 3 ∨ a = 4 then some (b == 8) else if 8 ≤ a then (if 8 ≤ b then impl_classUp.f k l0 (a - 8) (b - 8) else some false) else some false)
  else none
theorem impl_kindIn.mono : ∀ a0 a1 a2 k, LeO (impl_kindIn.f k a0 a1 a2) (impl_kindIn.f (k + 1) a0 a1 a2) := by
  intro a0 a1 a2 k
  unfold impl_kindIn.f
  repeat' first
      | (with_reducible exact impl_classUp.mono _ _ _ _)
      | (with_reducible exact LeO.refl _)
      | (with_reducible exact LeO.none _)
      | (with_reducible refine LeO.ite ?_ ?_)
end Go.Proofs.Ytgmjolngnhdafaa.P

end
section
namespace Go.Proofs.Ytgmjolngnhdafaa.P
open Go.RowKit Go.Proofs.YtgmjolngnhdafaaW.PrintWords Go.Proofs.YtgmjolngnhdafaaW.PrintLast Go.Proofs.YtgmjolngnhdafaaW.PrintMore
attribute [local go_sem] max2_int min2_int max_two min_two max_three min_three max_four min_four
set_option linter.unusedVariables false
set_option linter.unusedSimpArgs false

/-! ### impl_typeIn: function 72 -/
def impl_typeIn.f (k : Nat) (l0 : List (S38)) (a1 : Int) (a2 : Int) : Option (Bool) := (impl_kindOf.f (l0.length : Int) a1).bind fun t296 => ((impl_kindOf.f (l0.length : Int) a2).bind fun t297 => (if t296 = (-1) then (some false) else (if t297 = (-1) then (some false) else ((impl_kindIn.f k l0 t296 t297).bind fun t298 => (some t298)))))
theorem impl_typeIn.mono : ∀ a0 a1 a2 k, LeO (impl_typeIn.f k a0 a1 a2) (impl_typeIn.f (k + 1) a0 a1 a2) := by
  intro a0 a1 a2 k
  unfold impl_typeIn.f
  repeat' first
      | (with_reducible exact impl_kindIn.mono _ _ _ _)
      | (with_reducible exact LeO.refl _)
      | (with_reducible exact LeO.none _)
      | (with_reducible refine LeO.ite ?_ ?_)
      | (with_reducible refine LeO.bind ?_ (fun _ => ?_))
      | exact impl_kindIn.mono _ _ _ _
      | exact LeO.none _
      | refine LeO.ite ?_ ?_
      | refine LeO.bind ?_ (fun _ => ?_)

end Go.Proofs.Ytgmjolngnhdafaa.P

end
section
namespace Go.Proofs.Ytgmjolngnhdafaa.P
open Go.RowKit Go.Proofs.YtgmjolngnhdafaaW.PrintWords Go.Proofs.YtgmjolngnhdafaaW.PrintLast Go.Proofs.YtgmjolngnhdafaaW.PrintMore
attribute [local go_sem] max2_int min2_int max_two min_two max_three min_three max_four min_four
set_option linter.unusedVariables false
set_option linter.unusedSimpArgs false

/-! ### impl_TypeIn: function 35 -/
def impl_TypeIn.f (k : Nat) (l0 : List (S38)) (a1 : Int) (a2 : Int) : Option (Bool) := (impl_ClassesOk.f k l0).bind fun t299 => (if t299 = true then ((impl_typeIn.f k l0 a1 a2).bind fun t300 => (some t300)) else (some false))
theorem impl_TypeIn.mono : ∀ a0 a1 a2 k, LeO (impl_TypeIn.f k a0 a1 a2) (impl_TypeIn.f (k + 1) a0 a1 a2) := by
  intro a0 a1 a2 k
  unfold impl_TypeIn.f
  repeat' first
      | (with_reducible exact impl_ClassesOk.mono _ _)
      | (with_reducible exact impl_typeIn.mono _ _ _ _)
      | (with_reducible exact LeO.refl _)
      | (with_reducible exact LeO.none _)
      | (with_reducible refine LeO.ite ?_ ?_)
      | (with_reducible refine LeO.bind ?_ (fun _ => ?_))
      | exact impl_ClassesOk.mono _ _
      | exact impl_typeIn.mono _ _ _ _
      | exact LeO.none _
      | refine LeO.ite ?_ ?_
      | refine LeO.bind ?_ (fun _ => ?_)

end Go.Proofs.Ytgmjolngnhdafaa.P

end
section
namespace Go.Proofs.Ytgmjolngnhdafaa.P
open Go.RowKit Go.Proofs.YtgmjolngnhdafaaW.PrintWords Go.Proofs.YtgmjolngnhdafaaW.PrintLast Go.Proofs.YtgmjolngnhdafaaW.PrintMore
attribute [local go_sem] max2_int min2_int max_two min_two max_three min_three max_four min_four
set_option linter.unusedVariables false
set_option linter.unusedSimpArgs false

/-! ### spec_l2Ref: function 90 -/
def spec_l2Ref.f (a0 : Int) : Option (Bool) := some (decide (a0 ≥ 2))

end Go.Proofs.Ytgmjolngnhdafaa.P

end
section
namespace Go.Proofs.Ytgmjolngnhdafaa.P
open Go.RowKit Go.Proofs.YtgmjolngnhdafaaW.PrintWords Go.Proofs.YtgmjolngnhdafaaW.PrintLast Go.Proofs.YtgmjolngnhdafaaW.PrintMore
attribute [local go_sem] max2_int min2_int max_two min_two max_three min_three max_four min_four
set_option linter.unusedVariables false
set_option linter.unusedSimpArgs false

/-! ### spec_l2In: function 73 -/
mutual
def spec_l2In.j0 : Nat → List (S38) → Int → Int → Bool → Option (Bool)
  | 0, _, _, _, _ => none
  | k + 1, x0, x1, x2, x13 => if x13 = true then (some true) else (if x1 = 2 then ((spec_l2Ref.f x2).bind fun t321 => (some t321)) else ((spec_l2Ref.f x1).bind fun t322 => (if t322 = true then (spec_l2In.j1 k x0 x1 x2 (decide (x2 < 8))) else (spec_l2In.j1 k x0 x1 x2 true))))
def spec_l2In.j1 : Nat → List (S38) → Int → Int → Bool → Option (Bool)
  | 0, _, _, _, _ => none
  | k + 1, x0, x1, x2, x24 => if x24 = true then (some false) else (if x1 < 8 then (some (x2 == 8)) else ((spec_l2Up.f k x0 (wrap64 (x1 - 8)) (wrap64 (x2 - 8))).bind fun t323 => (some t323)))
end
def spec_l2In.f (k : Nat) (l0 : List (S38)) (a1 : Int) (a2 : Int) : Option (Bool) := if a1 = a2 then (spec_l2In.j0 k l0 a1 a2 true) else (spec_l2In.j0 k l0 a1 a2 (a2 == 0))
theorem spec_l2In.mono_l : ∀ k, (∀ y0 y1 y2 y3, LeO (spec_l2In.j0 k y0 y1 y2 y3) (spec_l2In.j0 (k + 1) y0 y1 y2 y3)) ∧ (∀ y0 y1 y2 y3, LeO (spec_l2In.j1 k y0 y1 y2 y3) (spec_l2In.j1 (k + 1) y0 y1 y2 y3))
  | 0 => ⟨fun _ _ _ _ r h => by simp [spec_l2In.j0] at h, fun _ _ _ _ r h => by simp [spec_l2In.j1] at h⟩
  | k + 1 => by
    obtain ⟨ih0, ih1⟩ := spec_l2In.mono_l k
    refine ⟨?_, ?_⟩
    · intro y0 y1 y2 y3
      unfold spec_l2In.j0
      repeat' first
      | (with_reducible exact ih0 _ _ _ _)
      | (with_reducible exact ih1 _ _ _ _)
      | (with_reducible exact spec_l2Up.mono _ _ _ _)
      | (with_reducible exact LeO.refl _)
      | (with_reducible exact LeO.none _)
      | (with_reducible refine LeO.ite ?_ ?_)
      | (with_reducible refine LeO.bind ?_ (fun _ => ?_))
      | exact ih0 _ _ _ _
      | exact ih1 _ _ _ _
      | exact spec_l2Up.mono _ _ _ _
      | exact LeO.none _
      | refine LeO.ite ?_ ?_
      | refine LeO.bind ?_ (fun _ => ?_)
    · intro y0 y1 y2 y3
      unfold spec_l2In.j1
      repeat' first
      | (with_reducible exact ih0 _ _ _ _)
      | (with_reducible exact ih1 _ _ _ _)
      | (with_reducible exact spec_l2Up.mono _ _ _ _)
      | (with_reducible exact LeO.refl _)
      | (with_reducible exact LeO.none _)
      | (with_reducible refine LeO.ite ?_ ?_)
      | (with_reducible refine LeO.bind ?_ (fun _ => ?_))
      | exact ih0 _ _ _ _
      | exact ih1 _ _ _ _
      | exact spec_l2Up.mono _ _ _ _
      | exact LeO.none _
      | refine LeO.ite ?_ ?_
      | refine LeO.bind ?_ (fun _ => ?_)
theorem spec_l2In.mono : ∀ a0 a1 a2 k, LeO (spec_l2In.f k a0 a1 a2) (spec_l2In.f (k + 1) a0 a1 a2) := by
  intro a0 a1 a2 k
  obtain ⟨ih0, ih1⟩ := spec_l2In.mono_l k
  unfold spec_l2In.f
  repeat' first
      | (with_reducible exact ih0 _ _ _ _)
      | (with_reducible exact ih1 _ _ _ _)
      | (with_reducible exact spec_l2Up.mono _ _ _ _)
      | (with_reducible exact LeO.refl _)
      | (with_reducible exact LeO.none _)
      | (with_reducible refine LeO.ite ?_ ?_)
      | (with_reducible refine LeO.bind ?_ (fun _ => ?_))
      | exact ih0 _ _ _ _
      | exact ih1 _ _ _ _
      | exact spec_l2Up.mono _ _ _ _
      | exact LeO.none _
      | refine LeO.ite ?_ ?_
      | refine LeO.bind ?_ (fun _ => ?_)

end Go.Proofs.Ytgmjolngnhdafaa.P

end
section
namespace Go.Proofs.Ytgmjolngnhdafaa.P
open Go.RowKit Go.Proofs.YtgmjolngnhdafaaW.PrintWords Go.Proofs.YtgmjolngnhdafaaW.PrintLast Go.Proofs.YtgmjolngnhdafaaW.PrintMore
attribute [local go_sem] max2_int min2_int max_two min_two max_three min_three max_four min_four
set_option linter.unusedVariables false
set_option linter.unusedSimpArgs false

/-! ### spec_TypeIn: function 40 -/
def spec_TypeIn.f (k : Nat) (l0 : List (S38)) (a1 : Int) (a2 : Int) : Option (Bool) := (spec_TypeOk.f k l0 a1).bind fun t324 => (if t324 = true then ((spec_TypeOk.f k l0 a2).bind fun t325 => (if t325 = true then ((spec_l2In.f k l0 a1 a2).bind fun t326 => (some t326)) else (some false))) else (some false))
theorem spec_TypeIn.mono : ∀ a0 a1 a2 k, LeO (spec_TypeIn.f k a0 a1 a2) (spec_TypeIn.f (k + 1) a0 a1 a2) := by
  intro a0 a1 a2 k
  unfold spec_TypeIn.f
  repeat' first
      | (with_reducible exact spec_TypeOk.mono _ _ _)
      | (with_reducible exact spec_l2In.mono _ _ _ _)
      | (with_reducible exact LeO.refl _)
      | (with_reducible exact LeO.none _)
      | (with_reducible refine LeO.ite ?_ ?_)
      | (with_reducible refine LeO.bind ?_ (fun _ => ?_))
      | exact spec_TypeOk.mono _ _ _
      | exact spec_l2In.mono _ _ _ _
      | exact LeO.none _
      | refine LeO.ite ?_ ?_
      | refine LeO.bind ?_ (fun _ => ?_)

end Go.Proofs.Ytgmjolngnhdafaa.P

end
section
namespace Go.Proofs.Ytgmjolngnhdafaa.P
open Go.RowKit Go.Proofs.YtgmjolngnhdafaaW.PrintWords Go.Proofs.YtgmjolngnhdafaaW.PrintLast Go.Proofs.YtgmjolngnhdafaaW.PrintMore
attribute [local go_sem] max2_int min2_int max_two min_two max_three min_three max_four min_four
set_option linter.unusedVariables false
set_option linter.unusedSimpArgs false

/-! ### impl_TypeOk: function 26 -/
def impl_TypeOk.f (k : Nat) (l0 : List (S38)) (a1 : Int) : Option (Bool) := (impl_ClassesOk.f k l0).bind fun t166 => (if t166 = true then ((impl_kindOf.f (l0.length : Int) a1).bind fun t167 => (some (t167 != (-1)))) else (some false))
theorem impl_TypeOk.mono : ∀ a0 a1 k, LeO (impl_TypeOk.f k a0 a1) (impl_TypeOk.f (k + 1) a0 a1) := by
  intro a0 a1 k
  unfold impl_TypeOk.f
  repeat' first
      | (with_reducible exact impl_ClassesOk.mono _ _)
      | (with_reducible exact LeO.refl _)
      | (with_reducible exact LeO.none _)
      | (with_reducible refine LeO.ite ?_ ?_)
      | (with_reducible refine LeO.bind ?_ (fun _ => ?_))
      | exact impl_ClassesOk.mono _ _
      | exact LeO.none _
      | refine LeO.ite ?_ ?_
      | refine LeO.bind ?_ (fun _ => ?_)

end Go.Proofs.Ytgmjolngnhdafaa.P

end
section
namespace Go.Proofs.Ytgmjolngnhdafaa.Kit
open Go Go.RowKit Go.Proofs.YtgmjolngnhdafaaW.PrintWords Go.Proofs.Ytgmjolngnhdafaa.P
set_option linter.unusedVariables false
theorem iff_no {p : Prop} (h : ¬ p) : (false = true) ↔ p := ⟨fun h2 => (by cases h2), fun h2 => absurd h2 h⟩
theorem iff_yes {p : Prop} (h : p) : (true = true) ↔ p := ⟨fun _ => h, fun _ => rfl⟩
theorem Up.via {cs : List Cls} {a b p : Nat} (hp : sup cs a = (p : Int)) (hne : a ≠ b) : Up cs a b ↔ Up cs p b := by
  constructor
  · intro h
    rcases h.inv with rfl | ⟨q, hq, h2⟩
    · exact absurd rfl hne
    · have : p = q := by omega
      subst this
      exact h2
  · intro h; exact .step p hp h
theorem spec_up {cs : List Cls} (h : ClsOk cs) (b : Nat) : ∀ a : Nat, a < cs.length → Evp (fun k => spec_l2Up.f k cs (a : Int) (b : Int)) (fun r => r = true ↔ Up cs a b) := by
  intro a
  induction a using Nat.strongRecOn with
  | _ a ih =>
    intro ha
    unfold spec_l2Up.f at ih ⊢
    refine Evp.step (f := fun k => _) (fun k => by rw [spec_l2Up.l0, rdSup]) (Evp.ite (fun hab => ?_) (fun hab => Evp.pure _ ?_))
    · obtain ⟨p, hp, hlt⟩ := h.sup_nat (by omega : 1 ≤ a) ha
      refine Evp.yes (by omega) (Evp.yes (by omega) ?_)
      rw [hp]
      exact (ih p hlt (by omega)).mono fun r hr => hr.trans (Up.via hp (by omega)).symm
    · rw [beq_iff_eq]
      constructor
      · intro h2
        have : a = b := by omega
        subst this; exact .refl _
      · intro h2
        have := h2.le h ha
        omega
theorem impl_up {cs : List Cls} (h : ClsOk cs) (b : Nat) : ∀ a : Nat, a < cs.length → Evp (fun k => impl_classUp.f k cs (a : Int) (b : Int)) (fun r => r = true ↔ Up cs a b) := by
  intro a
  induction a using Nat.strongRecOn with
  | _ a ih =>
    intro ha
    unfold impl_classUp.f at ih ⊢
    refine Evp.step (f := fun k => _) (fun k => by rw [impl_classUp.l0, rdSup]) (Evp.yes (by omega) (Evp.ite (fun hab => Evp.pure _ ?_) (fun hab => ?_)))
    · have : a = b := by omega
      subst this
      exact iff_yes (.refl _)
    · refine Evp.yes (by omega) (Evp.yes (by omega) ?_)
      rcases Nat.eq_zero_or_pos a with h0 | h0
      · subst h0
        rw [h.root.1]
        refine Evp.step (f := fun k => _) (fun k => by rw [impl_classUp.l0]) (Evp.no (by omega) (Evp.pure _ (iff_no ?_)))
        intro h2
        have := h2.le h ha
        omega
      · obtain ⟨p, hp, hlt⟩ := h.sup_nat h0 ha
        rw [hp]
        exact (ih p hlt (by omega)).mono fun r hr => hr.trans (Up.via hp (by omega)).symm
/-- A type of so many classes. -/
def TyOk (n : Nat) (t : Int) : Prop := t = 0 ∨ t = 2 ∨ FieldTy n t
theorem tyOk_iff {n : Nat} {t : Int} : TyOk n t ↔ (0 ≤ t ∧ t ≤ 4) ∨ (8 ≤ t ∧ t < 8 + (n : Int)) := by
  unfold TyOk FieldTy
  omega
theorem kindOf_ty {n : Nat} {t : Int} (hn : n ≤ 1000000000) (h0 : -9223372036854775808 ≤ t) (h1 : t ≤ 9223372036854775807) :
    ∃ r, impl_kindOf.f (n : Int) t = some r ∧ (TyOk n t ∧ r = t ∨ ¬ TyOk n t ∧ r = -1) := by
  refine ⟨_, kindOf_eq hn h0 h1, ?_⟩
  rw [tyOk_iff]
  by_cases h : (0 ≤ t ∧ t ≤ 4) ∨ (8 ≤ t ∧ t < 8 + (n : Int))
  · rw [if_pos h]; exact .inl ⟨h, rfl⟩
  · rw [if_neg h]; exact .inr ⟨h, rfl⟩
theorem spec_typeOk {cs : List Cls} (hs : SmallC cs) (t : Int) : Evp (fun k => spec_TypeOk.f k cs t) (fun r => r = true ↔ ClsOk cs ∧ TyOk cs.length t) := by
  have hl0 := hs.1
  unfold spec_TypeOk.f
  refine Evp.bind (spec_classesOk hs) fun b hb => Evp.ite (fun h => ?_) (fun h => Evp.pure _ (iff_no fun h2 => h (hb.2 h2.1)))
  refine Evp.ite (fun h0 => Evp.pure _ (iff_yes ⟨hb.1 h, .inl h0⟩)) (fun h0 => Evp.ite (fun h2 => Evp.pure _ (iff_yes ⟨hb.1 h, .inr (.inl h2)⟩)) (fun h2 => ?_))
  obtain ⟨c, hc, hc2⟩ := field_eq (cs := cs) (t := t) (by omega)
  simp only [hc, Option.bind_some]
  refine Evp.pure _ (hc2.trans ⟨fun h3 => ⟨hb.1 h, .inr (.inr h3)⟩, fun h3 => ?_⟩)
  rcases h3.2 with h4 | h4 | h4
  · exact absurd h4 h0
  · exact absurd h4 h2
  · exact h4
theorem impl_typeOk {cs : List Cls} (hs : SmallC cs) {t : Int} (ht0 : -9223372036854775808 ≤ t) (ht1 : t ≤ 9223372036854775807) : Evp (fun k => impl_TypeOk.f k cs t) (fun r => r = true ↔ ClsOk cs ∧ TyOk cs.length t) := by
  have hl0 := hs.1
  unfold impl_TypeOk.f
  refine Evp.bind (impl_classesOk hs) fun b hb => Evp.ite (fun h => ?_) (fun h => Evp.pure _ (iff_no fun h2 => h (hb.2 h2.1)))
  obtain ⟨c, hc, hc2⟩ := kindOf_ty (n := cs.length) (by omega) ht0 ht1
  simp only [hc, Option.bind_some]
  refine Evp.pure _ ?_
  rcases hc2 with ⟨h1, rfl⟩ | ⟨h1, rfl⟩
  · have := tyOk_iff.1 h1
    rw [bne_iff_ne]
    exact ⟨fun _ => ⟨hb.1 h, h1⟩, fun _ => by omega⟩
  · exact iff_no fun h2 => h1 h2.2
/-- A value of the one type is one of the other. -/
def TyIn (cs : List Cls) (a b : Int) : Prop := a = b ∨ b = 0 ∨ (a = 2 ∧ 2 ≤ b) ∨ ((a = 3 ∨ a = 4) ∧ b = 8) ∨ (8 ≤ a ∧ 8 ≤ b ∧ Up cs (a - 8).toNat (b - 8).toNat)
theorem spec_tyIn {cs : List Cls} (hs : SmallC cs) (h : ClsOk cs) {a b : Int} (ha : TyOk cs.length a) (hb : TyOk cs.length b) : Evp (fun k => spec_l2In.f k cs a b) (fun r => r = true ↔ TyIn cs a b) := by
  have hl0 := hs.1
  have ha' := tyOk_iff.1 ha
  have hb' := tyOk_iff.1 hb
  unfold spec_l2In.f
  have j0t : TyIn cs a b → Evp (fun k => spec_l2In.j0 k cs a b true) (fun r => r = true ↔ TyIn cs a b) := fun h =>
    Evp.step (f := fun k => _) (fun k => by rw [spec_l2In.j0]) (Evp.yes rfl (Evp.pure _ (iff_yes h)))
  have j1t : ¬ TyIn cs a b → Evp (fun k => spec_l2In.j1 k cs a b true) (fun r => r = true ↔ TyIn cs a b) := fun h =>
    Evp.step (f := fun k => _) (fun k => by rw [spec_l2In.j1]) (Evp.yes rfl (Evp.pure _ (iff_no h)))
  refine Evp.ite (fun h1 => j0t (.inl h1)) (fun h1 => ?_)
  by_cases h2 : b = 0
  · rw [h2, show ((0 : Int) == 0) = true from rfl, ← h2]; exact j0t (.inr (.inl h2))
  rw [show (b == 0) = false from beq_eq_false_iff_ne.2 h2]
  refine Evp.step (f := fun k => _) (fun k => by rw [spec_l2In.j0, spec_l2Ref.f, spec_l2Ref.f, Option.bind_some, Option.bind_some]) (Evp.no (by decide) (Evp.ite (fun h3 => Evp.pure _ ?_) (fun h3 => Evp.ite (fun h4 => ?_) (fun h4 => j1t ?_))))
  · rw [decide_eq_true_iff]
    unfold TyIn
    constructor
    · intro h4; exact .inr (.inr (.inl ⟨h3, by omega⟩))
    · intro h4; omega
  · rw [decide_eq_true_iff] at h4
    by_cases h5 : b < 8
    · rw [decide_eq_true h5]
      refine j1t ?_
      unfold TyIn
      omega
    · rw [decide_eq_false h5]
      refine Evp.step (f := fun k => _) (fun k => by rw [spec_l2In.j1]) (Evp.no (by decide) (Evp.ite (fun h6 => Evp.pure _ ?_) (fun h6 => ?_)))
      · rw [beq_iff_eq]
        unfold TyIn
        constructor
        · intro h7; exact .inr (.inr (.inr (.inl ⟨by omega, h7⟩)))
        · intro h7; omega
      · rw [w64 (n := a - 8) (by omega) (by omega), w64 (n := b - 8) (by omega) (by omega), show a - 8 = (((a - 8).toNat : Nat) : Int) by omega, show b - 8 = (((b - 8).toNat : Nat) : Int) by omega]
        refine Evp.bind (spec_up h _ _ (by omega)) fun c hc => Evp.pure _ (hc.trans ?_)
        unfold TyIn
        constructor
        · intro h7; exact .inr (.inr (.inr (.inr ⟨by omega, by omega, by simpa using h7⟩)))
        · intro h7
          rcases h7 with h7 | h7 | h7 | h7 | h7
          · omega
          · omega
          · omega
          · omega
          · simpa using h7.2.2
  · rw [decide_eq_true_iff] at h4
    unfold TyIn
    omega
theorem impl_kdIn {cs : List Cls} (hs : SmallC cs) (h : ClsOk cs) {a b : Int} (ha : TyOk cs.length a) (hb : TyOk cs.length b) : Evp (fun k => impl_kindIn.f k cs a b) (fun r => r = true ↔ TyIn cs a b) := by
  have hl0 := hs.1
  have ha' := tyOk_iff.1 ha
  have hb' := tyOk_iff.1 hb
  unfold impl_kindIn.f
  refine Evp.yes ⟨by unfold KindOk; omega, by unfold KindOk; omega⟩ ?_
  refine Evp.ite (fun h1 => Evp.pure _ (iff_yes (.inl h1))) (fun h1 => Evp.ite (fun h2 => Evp.pure _ (iff_yes (.inr (.inl h2)))) (fun h2 => Evp.ite (fun h3 => Evp.pure _ ?_) (fun h3 => Evp.ite (fun h4 => Evp.pure _ ?_) (fun h4 => Evp.ite (fun h5 => Evp.ite (fun h6 => ?_) (fun h6 => Evp.pure _ (iff_no ?_))) (fun h5 => Evp.pure _ (iff_no ?_))))))
  · rw [bne_iff_ne]
    unfold TyIn
    constructor
    · intro h4; exact .inr (.inr (.inl ⟨h3, by omega⟩))
    · intro h4; omega
  · rw [beq_iff_eq]
    unfold TyIn
    constructor
    · intro h7; exact .inr (.inr (.inr (.inl ⟨h4, h7⟩)))
    · intro h7; omega
  · rw [show a - 8 = (((a - 8).toNat : Nat) : Int) by omega, show b - 8 = (((b - 8).toNat : Nat) : Int) by omega]
    refine (impl_up h _ _ (by omega)).mono fun c hc => hc.trans ?_
    unfold TyIn
    constructor
    · intro h7; exact .inr (.inr (.inr (.inr ⟨by omega, by omega, by simpa using h7⟩)))
    · intro h7
      rcases h7 with h7 | h7 | h7 | h7 | h7
      · omega
      · omega
      · omega
      · omega
      · simpa using h7.2.2
  · unfold TyIn
    omega
  · unfold TyIn
    omega
theorem impl_tyIn {cs : List Cls} (hs : SmallC cs) (h : ClsOk cs) {a b : Int} (ha0 : -9223372036854775808 ≤ a) (ha1 : a ≤ 9223372036854775807) (hb0 : -9223372036854775808 ≤ b) (hb1 : b ≤ 9223372036854775807) :
    Evp (fun k => impl_typeIn.f k cs a b) (fun r => r = true ↔ TyOk cs.length a ∧ TyOk cs.length b ∧ TyIn cs a b) := by
  have hl0 := hs.1
  unfold impl_typeIn.f
  obtain ⟨r, hr, hr2⟩ := kindOf_ty (n := cs.length) (by omega) ha0 ha1
  obtain ⟨q, hq, hq2⟩ := kindOf_ty (n := cs.length) (by omega) hb0 hb1
  simp only [hr, hq, Option.bind_some]
  rcases hr2 with ⟨h1, rfl⟩ | ⟨h1, rfl⟩
  · refine Evp.no (by have := tyOk_iff.1 h1; omega) ?_
    rcases hq2 with ⟨h2, rfl⟩ | ⟨h2, rfl⟩
    · refine Evp.no (by have := tyOk_iff.1 h2; omega) ?_
      refine Evp.bind (impl_kdIn hs h h1 h2) fun c hc => Evp.pure _ (hc.trans ⟨fun h3 => ⟨h1, h2, h3⟩, fun h3 => h3.2.2⟩)
    · exact Evp.yes rfl (Evp.pure _ (iff_no fun h3 => h2 h3.2.1))
  · exact Evp.yes rfl (Evp.pure _ (iff_no fun h3 => h1 h3.1))
theorem impl_TypeIn' {cs : List Cls} (hs : SmallC cs) {a b : Int} (ha0 : -9223372036854775808 ≤ a) (ha1 : a ≤ 9223372036854775807) (hb0 : -9223372036854775808 ≤ b) (hb1 : b ≤ 9223372036854775807) :
    Evp (fun k => impl_TypeIn.f k cs a b) (fun r => r = true ↔ ClsOk cs ∧ TyOk cs.length a ∧ TyOk cs.length b ∧ TyIn cs a b) := by
  unfold impl_TypeIn.f
  refine Evp.bind (impl_classesOk hs) fun c hc => Evp.ite (fun h => ?_) (fun h => Evp.pure _ (iff_no fun h2 => h (hc.2 h2.1)))
  exact Evp.bind (impl_tyIn hs (hc.1 h) ha0 ha1 hb0 hb1) fun d hd => Evp.pure _ (hd.trans ⟨fun h3 => ⟨hc.1 h, h3⟩, fun h3 => h3.2⟩)
theorem spec_TypeIn' {cs : List Cls} (hs : SmallC cs) (a b : Int) :
    Evp (fun k => spec_TypeIn.f k cs a b) (fun r => r = true ↔ ClsOk cs ∧ TyOk cs.length a ∧ TyOk cs.length b ∧ TyIn cs a b) := by
  unfold spec_TypeIn.f
  refine Evp.bind (spec_typeOk hs a) fun c hc => Evp.ite (fun h => ?_) (fun h => Evp.pure _ (iff_no fun h2 => h (hc.2 ⟨h2.1, h2.2.1⟩)))
  refine Evp.bind (spec_typeOk hs b) fun d hd => Evp.ite (fun h' => ?_) (fun h' => Evp.pure _ (iff_no fun h2 => h' (hd.2 ⟨h2.1, h2.2.2.1⟩)))
  obtain ⟨h3, h4⟩ := hc.1 h
  have h5 := (hd.1 h').2
  exact Evp.bind (spec_tyIn hs h3 h4 h5) fun e he => Evp.pure _ (he.trans ⟨fun h6 => ⟨h3, h4, h5, h6⟩, fun h6 => h6.2.2.2⟩)
end Go.Proofs.Ytgmjolngnhdafaa.Kit

end
section
namespace Go.Proofs.Ytgmjolngnhdafaa.P
open Go.RowKit Go.Proofs.YtgmjolngnhdafaaW.PrintWords Go.Proofs.YtgmjolngnhdafaaW.PrintLast Go.Proofs.YtgmjolngnhdafaaW.PrintMore
attribute [local go_sem] max2_int min2_int max_two min_two max_three min_three max_four min_four
set_option linter.unusedVariables false
set_option linter.unusedSimpArgs false

/-! ### impl_shapeFit: function 93 -/
def impl_shapeFit.f (k : Nat) (l0 : List (S38)) (a1_0 : Bool) (l1_1 : List Int) (l1_2 : List Int) (a2_0 : Bool) (l2_1 : List Int) (l2_2 : List Int) : Option (Bool) := if a1_0 = true then (if a2_0 = true then (if (l1_1.length : Int) = (l2_1.length : Int) then (if (l1_2.length : Int) = (l2_2.length : Int) then ((impl_shapeOk.f k l0 (l1_1.length : Int) a1_0 l1_1 l1_2).bind fun t508 => (if t508 = true then ((impl_shapeOk.f k l0 (l2_1.length : Int) a2_0 l2_1 l2_2).bind fun t509 => (some t509)) else (some false))) else (some false)) else (some false)) else (some false)) else (some false)
theorem impl_shapeFit.mono : ∀ a0 a1 a2 a3 a4 a5 a6 k, LeO (impl_shapeFit.f k a0 a1 a2 a3 a4 a5 a6) (impl_shapeFit.f (k + 1) a0 a1 a2 a3 a4 a5 a6) := by
  intro a0 a1 a2 a3 a4 a5 a6 k
  unfold impl_shapeFit.f
  repeat' first
      | (with_reducible exact impl_shapeOk.mono _ _ _ _ _ _)
      | (with_reducible exact LeO.refl _)
      | (with_reducible exact LeO.none _)
      | (with_reducible refine LeO.ite ?_ ?_)
      | (with_reducible refine LeO.bind ?_ (fun _ => ?_))
      | exact impl_shapeOk.mono _ _ _ _ _ _
      | exact LeO.none _
      | refine LeO.ite ?_ ?_
      | refine LeO.bind ?_ (fun _ => ?_)

end Go.Proofs.Ytgmjolngnhdafaa.P

end
section
namespace Go.Proofs.Ytgmjolngnhdafaa.P
open Go.RowKit Go.Proofs.YtgmjolngnhdafaaW.PrintWords Go.Proofs.YtgmjolngnhdafaaW.PrintLast Go.Proofs.YtgmjolngnhdafaaW.PrintMore
attribute [local go_sem] max2_int min2_int max_two min_two max_three min_three max_four min_four
set_option linter.unusedVariables false
set_option linter.unusedSimpArgs false

/-! ### impl_shapeIn: function 85 -/
mutual
def impl_shapeIn.l0 : Nat → List (S38) → List Int → Int → Int → Bool → List Int → List Int → Bool → List Int → List Int → Option (Bool)
  | 0, _, _, _, _, _, _, _, _, _, _ => none
  | k + 1, x0, x17, x18, x19, x511000, x511001, x511002, x512000, x512001, x512002 => if x19 < x18 then (if 0 ≤ x19 then (if x19 < (x17.length : Int) then (if x19 < (x512001.length : Int) then ((impl_typeIn.f k x0 (rd x17 x19) (rd x512001 x19)).bind fun t515 => (if t515 = true then (impl_shapeIn.l0 k x0 x17 x18 (wrap64 (x19 + 1)) x511000 x511001 x511002 x512000 x512001 x512002) else (some false))) else (none)) else (none)) else (none)) else (impl_shapeIn.l1 k x0 x511002 (x511002.length : Int) 0 x512000 x512001 x512002)
def impl_shapeIn.l1 : Nat → List (S38) → List Int → Int → Int → Bool → List Int → List Int → Option (Bool)
  | 0, _, _, _, _, _, _, _ => none
  | k + 1, x0, x35, x36, x37, x512000, x512001, x512002 => if x37 < x36 then (if 0 ≤ x37 then (if x37 < (x35.length : Int) then (if x37 < (x512002.length : Int) then ((impl_typeIn.f k x0 (rd x35 x37) (rd x512002 x37)).bind fun t518 => (if t518 = true then (impl_shapeIn.l1 k x0 x35 x36 (wrap64 (x37 + 1)) x512000 x512001 x512002) else (some false))) else (none)) else (none)) else (none)) else (some true)
end
def impl_shapeIn.f (k : Nat) (l0 : List (S38)) (a1_0 : Bool) (l1_1 : List Int) (l1_2 : List Int) (a2_0 : Bool) (l2_1 : List Int) (l2_2 : List Int) : Option (Bool) := (impl_shapeFit.f k l0 a1_0 l1_1 l1_2 a2_0 l2_1 l2_2).bind fun t512 => (if t512 = true then (impl_shapeIn.l0 k l0 l1_1 (l1_1.length : Int) 0 a1_0 l1_1 l1_2 a2_0 l2_1 l2_2) else (some false))
theorem impl_shapeIn.mono_l : ∀ k, (∀ y0 y1 y2 y3 y4 y5 y6 y7 y8 y9, LeO (impl_shapeIn.l0 k y0 y1 y2 y3 y4 y5 y6 y7 y8 y9) (impl_shapeIn.l0 (k + 1) y0 y1 y2 y3 y4 y5 y6 y7 y8 y9)) ∧ (∀ y0 y1 y2 y3 y4 y5 y6, LeO (impl_shapeIn.l1 k y0 y1 y2 y3 y4 y5 y6) (impl_shapeIn.l1 (k + 1) y0 y1 y2 y3 y4 y5 y6))
  | 0 => ⟨fun _ _ _ _ _ _ _ _ _ _ r h => by simp [impl_shapeIn.l0] at h, fun _ _ _ _ _ _ _ r h => by simp [impl_shapeIn.l1] at h⟩
  | k + 1 => by
    obtain ⟨ih0, ih1⟩ := impl_shapeIn.mono_l k
    refine ⟨?_, ?_⟩
    · intro y0 y1 y2 y3 y4 y5 y6 y7 y8 y9
      unfold impl_shapeIn.l0
      repeat' first
      | (with_reducible exact ih0 _ _ _ _ _ _ _ _ _ _)
      | (with_reducible exact ih1 _ _ _ _ _ _ _)
      | (with_reducible exact impl_shapeFit.mono _ _ _ _ _ _ _ _)
      | (with_reducible exact impl_typeIn.mono _ _ _ _)
      | (with_reducible exact LeO.refl _)
      | (with_reducible exact LeO.none _)
      | (with_reducible refine LeO.ite ?_ ?_)
      | (with_reducible refine LeO.bind ?_ (fun _ => ?_))
      | exact ih0 _ _ _ _ _ _ _ _ _ _
      | exact ih1 _ _ _ _ _ _ _
      | exact impl_shapeFit.mono _ _ _ _ _ _ _ _
      | exact impl_typeIn.mono _ _ _ _
      | exact LeO.none _
      | refine LeO.ite ?_ ?_
      | refine LeO.bind ?_ (fun _ => ?_)
    · intro y0 y1 y2 y3 y4 y5 y6
      unfold impl_shapeIn.l1
      repeat' first
      | (with_reducible exact ih0 _ _ _ _ _ _ _ _ _ _)
      | (with_reducible exact ih1 _ _ _ _ _ _ _)
      | (with_reducible exact impl_shapeFit.mono _ _ _ _ _ _ _ _)
      | (with_reducible exact impl_typeIn.mono _ _ _ _)
      | (with_reducible exact LeO.refl _)
      | (with_reducible exact LeO.none _)
      | (with_reducible refine LeO.ite ?_ ?_)
      | (with_reducible refine LeO.bind ?_ (fun _ => ?_))
      | exact ih0 _ _ _ _ _ _ _ _ _ _
      | exact ih1 _ _ _ _ _ _ _
      | exact impl_shapeFit.mono _ _ _ _ _ _ _ _
      | exact impl_typeIn.mono _ _ _ _
      | exact LeO.none _
      | refine LeO.ite ?_ ?_
      | refine LeO.bind ?_ (fun _ => ?_)
theorem impl_shapeIn.mono : ∀ a0 a1 a2 a3 a4 a5 a6 k, LeO (impl_shapeIn.f k a0 a1 a2 a3 a4 a5 a6) (impl_shapeIn.f (k + 1) a0 a1 a2 a3 a4 a5 a6) := by
  intro a0 a1 a2 a3 a4 a5 a6 k
  obtain ⟨ih0, ih1⟩ := impl_shapeIn.mono_l k
  unfold impl_shapeIn.f
  repeat' first
      | (with_reducible exact ih0 _ _ _ _ _ _ _ _ _ _)
      | (with_reducible exact ih1 _ _ _ _ _ _ _)
      | (with_reducible exact impl_shapeFit.mono _ _ _ _ _ _ _ _)
      | (with_reducible exact impl_typeIn.mono _ _ _ _)
      | (with_reducible exact LeO.refl _)
      | (with_reducible exact LeO.none _)
      | (with_reducible refine LeO.ite ?_ ?_)
      | (with_reducible refine LeO.bind ?_ (fun _ => ?_))
      | exact ih0 _ _ _ _ _ _ _ _ _ _
      | exact ih1 _ _ _ _ _ _ _
      | exact impl_shapeFit.mono _ _ _ _ _ _ _ _
      | exact impl_typeIn.mono _ _ _ _
      | exact LeO.none _
      | refine LeO.ite ?_ ?_
      | refine LeO.bind ?_ (fun _ => ?_)

end Go.Proofs.Ytgmjolngnhdafaa.P

end
section
namespace Go.Proofs.Ytgmjolngnhdafaa.P
open Go.RowKit Go.Proofs.YtgmjolngnhdafaaW.PrintWords Go.Proofs.YtgmjolngnhdafaaW.PrintLast Go.Proofs.YtgmjolngnhdafaaW.PrintMore
attribute [local go_sem] max2_int min2_int max_two min_two max_three min_three max_four min_four
set_option linter.unusedVariables false
set_option linter.unusedSimpArgs false

/-! ### impl_ShapeIn: function 52 -/
def impl_ShapeIn.f (k : Nat) (l0 : List (S38)) (a1_0 : Bool) (l1_1 : List Int) (l1_2 : List Int) (a2_0 : Bool) (l2_1 : List Int) (l2_2 : List Int) : Option (Bool) := (impl_ClassesOk.f k l0).bind fun t521 => (if t521 = true then ((impl_shapeIn.f k l0 a1_0 l1_1 l1_2 a2_0 l2_1 l2_2).bind fun t522 => (some t522)) else (some false))
theorem impl_ShapeIn.mono : ∀ a0 a1 a2 a3 a4 a5 a6 k, LeO (impl_ShapeIn.f k a0 a1 a2 a3 a4 a5 a6) (impl_ShapeIn.f (k + 1) a0 a1 a2 a3 a4 a5 a6) := by
  intro a0 a1 a2 a3 a4 a5 a6 k
  unfold impl_ShapeIn.f
  repeat' first
      | (with_reducible exact impl_ClassesOk.mono _ _)
      | (with_reducible exact impl_shapeIn.mono _ _ _ _ _ _ _ _)
      | (with_reducible exact LeO.refl _)
      | (with_reducible exact LeO.none _)
      | (with_reducible refine LeO.ite ?_ ?_)
      | (with_reducible refine LeO.bind ?_ (fun _ => ?_))
      | exact impl_ClassesOk.mono _ _
      | exact impl_shapeIn.mono _ _ _ _ _ _ _ _
      | exact LeO.none _
      | refine LeO.ite ?_ ?_
      | refine LeO.bind ?_ (fun _ => ?_)

end Go.Proofs.Ytgmjolngnhdafaa.P

end
section
namespace Go.Proofs.Ytgmjolngnhdafaa.P
open Go.RowKit Go.Proofs.YtgmjolngnhdafaaW.PrintWords Go.Proofs.YtgmjolngnhdafaaW.PrintLast Go.Proofs.YtgmjolngnhdafaaW.PrintMore
attribute [local go_sem] max2_int min2_int max_two min_two max_three min_three max_four min_four
set_option linter.unusedVariables false
set_option linter.unusedSimpArgs false

/-! ### spec_l11Fits: function 83 -/
def spec_l11Fits.f (k : Nat) (l0 : List (S38)) (a1_0 : Bool) (l1_1 : List Int) (l1_2 : List Int) (a2_0 : Bool) (l2_1 : List Int) (l2_2 : List Int) : Option (Bool) := if a1_0 = true then (if a2_0 = true then ((spec_ShapeOk.f k l0 (l1_1.length : Int) a1_0 l1_1 l1_2).bind fun t492 => (if t492 = true then ((spec_ShapeOk.f k l0 (l1_1.length : Int) a2_0 l2_1 l2_2).bind fun t493 => (if t493 = true then (some ((l1_2.length : Int) == (l2_2.length : Int))) else (some false))) else (some false))) else (some false)) else (some false)
theorem spec_l11Fits.mono : ∀ a0 a1 a2 a3 a4 a5 a6 k, LeO (spec_l11Fits.f k a0 a1 a2 a3 a4 a5 a6) (spec_l11Fits.f (k + 1) a0 a1 a2 a3 a4 a5 a6) := by
  intro a0 a1 a2 a3 a4 a5 a6 k
  unfold spec_l11Fits.f
  repeat' first
      | (with_reducible exact spec_ShapeOk.mono _ _ _ _ _ _)
      | (with_reducible exact LeO.refl _)
      | (with_reducible exact LeO.none _)
      | (with_reducible refine LeO.ite ?_ ?_)
      | (with_reducible refine LeO.bind ?_ (fun _ => ?_))
      | exact spec_ShapeOk.mono _ _ _ _ _ _
      | exact LeO.none _
      | refine LeO.ite ?_ ?_
      | refine LeO.bind ?_ (fun _ => ?_)

end Go.Proofs.Ytgmjolngnhdafaa.P

end
section
namespace Go.Proofs.Ytgmjolngnhdafaa.P
open Go.RowKit Go.Proofs.YtgmjolngnhdafaaW.PrintWords Go.Proofs.YtgmjolngnhdafaaW.PrintLast Go.Proofs.YtgmjolngnhdafaaW.PrintMore
attribute [local go_sem] max2_int min2_int max_two min_two max_three min_three max_four min_four
set_option linter.unusedVariables false
set_option linter.unusedSimpArgs false

/-! ### spec_l11In: function 84 -/
mutual
def spec_l11In.l0 : Nat → List (S38) → Int → Bool → List Int → List Int → Bool → List Int → List Int → Option (Bool)
  | 0, _, _, _, _, _, _, _, _ => none
  | k + 1, x0, x7, x495000, x495001, x495002, x496000, x496001, x496002 => if x7 < (x495001.length : Int) then (if 0 ≤ x7 then (if x7 < (x496001.length : Int) then ((spec_l2In.f k x0 (rd x495001 x7) (rd x496001 x7)).bind fun t498 => (if t498 = true then (spec_l11In.l0 k x0 (wrap64 (x7 + 1)) x495000 x495001 x495002 x496000 x496001 x496002) else (some false))) else (none)) else (none)) else (spec_l11In.l1 k x0 0 x495000 x495001 x495002 x496000 x496001 x496002)
def spec_l11In.l1 : Nat → List (S38) → Int → Bool → List Int → List Int → Bool → List Int → List Int → Option (Bool)
  | 0, _, _, _, _, _, _, _, _ => none
  | k + 1, x0, x8, x495000, x495001, x495002, x496000, x496001, x496002 => if x8 < (x495002.length : Int) then (if 0 ≤ x8 then (if x8 < (x496002.length : Int) then ((spec_l2In.f k x0 (rd x495002 x8) (rd x496002 x8)).bind fun t501 => (if t501 = true then (spec_l11In.l1 k x0 (wrap64 (x8 + 1)) x495000 x495001 x495002 x496000 x496001 x496002) else (some false))) else (none)) else (none)) else (some true)
end
def spec_l11In.f (k : Nat) (l0 : List (S38)) (a1_0 : Bool) (l1_1 : List Int) (l1_2 : List Int) (a2_0 : Bool) (l2_1 : List Int) (l2_2 : List Int) : Option (Bool) := if (l1_2.length : Int) = (l2_2.length : Int) then (spec_l11In.l0 k l0 0 a1_0 l1_1 l1_2 a2_0 l2_1 l2_2) else (some false)
theorem spec_l11In.mono_l : ∀ k, (∀ y0 y1 y2 y3 y4 y5 y6 y7, LeO (spec_l11In.l0 k y0 y1 y2 y3 y4 y5 y6 y7) (spec_l11In.l0 (k + 1) y0 y1 y2 y3 y4 y5 y6 y7)) ∧ (∀ y0 y1 y2 y3 y4 y5 y6 y7, LeO (spec_l11In.l1 k y0 y1 y2 y3 y4 y5 y6 y7) (spec_l11In.l1 (k + 1) y0 y1 y2 y3 y4 y5 y6 y7))
  | 0 => ⟨fun _ _ _ _ _ _ _ _ r h => by simp [spec_l11In.l0] at h, fun _ _ _ _ _ _ _ _ r h => by simp [spec_l11In.l1] at h⟩
  | k + 1 => by
    obtain ⟨ih0, ih1⟩ := spec_l11In.mono_l k
    refine ⟨?_, ?_⟩
    · intro y0 y1 y2 y3 y4 y5 y6 y7
      unfold spec_l11In.l0
      repeat' first
      | (with_reducible exact ih0 _ _ _ _ _ _ _ _)
      | (with_reducible exact ih1 _ _ _ _ _ _ _ _)
      | (with_reducible exact spec_l2In.mono _ _ _ _)
      | (with_reducible exact LeO.refl _)
      | (with_reducible exact LeO.none _)
      | (with_reducible refine LeO.ite ?_ ?_)
      | (with_reducible refine LeO.bind ?_ (fun _ => ?_))
      | exact ih0 _ _ _ _ _ _ _ _
      | exact ih1 _ _ _ _ _ _ _ _
      | exact spec_l2In.mono _ _ _ _
      | exact LeO.none _
      | refine LeO.ite ?_ ?_
      | refine LeO.bind ?_ (fun _ => ?_)
    · intro y0 y1 y2 y3 y4 y5 y6 y7
      unfold spec_l11In.l1
      repeat' first
      | (with_reducible exact ih0 _ _ _ _ _ _ _ _)
      | (with_reducible exact ih1 _ _ _ _ _ _ _ _)
      | (with_reducible exact spec_l2In.mono _ _ _ _)
      | (with_reducible exact LeO.refl _)
      | (with_reducible exact LeO.none _)
      | (with_reducible refine LeO.ite ?_ ?_)
      | (with_reducible refine LeO.bind ?_ (fun _ => ?_))
      | exact ih0 _ _ _ _ _ _ _ _
      | exact ih1 _ _ _ _ _ _ _ _
      | exact spec_l2In.mono _ _ _ _
      | exact LeO.none _
      | refine LeO.ite ?_ ?_
      | refine LeO.bind ?_ (fun _ => ?_)
theorem spec_l11In.mono : ∀ a0 a1 a2 a3 a4 a5 a6 k, LeO (spec_l11In.f k a0 a1 a2 a3 a4 a5 a6) (spec_l11In.f (k + 1) a0 a1 a2 a3 a4 a5 a6) := by
  intro a0 a1 a2 a3 a4 a5 a6 k
  obtain ⟨ih0, ih1⟩ := spec_l11In.mono_l k
  unfold spec_l11In.f
  repeat' first
      | (with_reducible exact ih0 _ _ _ _ _ _ _ _)
      | (with_reducible exact ih1 _ _ _ _ _ _ _ _)
      | (with_reducible exact spec_l2In.mono _ _ _ _)
      | (with_reducible exact LeO.refl _)
      | (with_reducible exact LeO.none _)
      | (with_reducible refine LeO.ite ?_ ?_)
      | (with_reducible refine LeO.bind ?_ (fun _ => ?_))
      | exact ih0 _ _ _ _ _ _ _ _
      | exact ih1 _ _ _ _ _ _ _ _
      | exact spec_l2In.mono _ _ _ _
      | exact LeO.none _
      | refine LeO.ite ?_ ?_
      | refine LeO.bind ?_ (fun _ => ?_)

end Go.Proofs.Ytgmjolngnhdafaa.P

end
section
namespace Go.Proofs.Ytgmjolngnhdafaa.P
open Go.RowKit Go.Proofs.YtgmjolngnhdafaaW.PrintWords Go.Proofs.YtgmjolngnhdafaaW.PrintLast Go.Proofs.YtgmjolngnhdafaaW.PrintMore
attribute [local go_sem] max2_int min2_int max_two min_two max_three min_three max_four min_four
set_option linter.unusedVariables false
set_option linter.unusedSimpArgs false

/-! ### spec_ShapeIn: function 51 -/
def spec_ShapeIn.f (k : Nat) (l0 : List (S38)) (a1_0 : Bool) (l1_1 : List Int) (l1_2 : List Int) (a2_0 : Bool) (l2_1 : List Int) (l2_2 : List Int) : Option (Bool) := (spec_l11Fits.f k l0 a1_0 l1_1 l1_2 a2_0 l2_1 l2_2).bind fun t504 => (if t504 = true then ((spec_l11In.f k l0 a1_0 l1_1 l1_2 a2_0 l2_1 l2_2).bind fun t505 => (some t505)) else (some false))
theorem spec_ShapeIn.mono : ∀ a0 a1 a2 a3 a4 a5 a6 k, LeO (spec_ShapeIn.f k a0 a1 a2 a3 a4 a5 a6) (spec_ShapeIn.f (k + 1) a0 a1 a2 a3 a4 a5 a6) := by
  intro a0 a1 a2 a3 a4 a5 a6 k
  unfold spec_ShapeIn.f
  repeat' first
      | (with_reducible exact spec_l11Fits.mono _ _ _ _ _ _ _ _)
      | (with_reducible exact spec_l11In.mono _ _ _ _ _ _ _ _)
      | (with_reducible exact LeO.refl _)
      | (with_reducible exact LeO.none _)
      | (with_reducible refine LeO.ite ?_ ?_)
      | (with_reducible refine LeO.bind ?_ (fun _ => ?_))
      | exact spec_l11Fits.mono _ _ _ _ _ _ _ _
      | exact spec_l11In.mono _ _ _ _ _ _ _ _
      | exact LeO.none _
      | refine LeO.ite ?_ ?_
      | refine LeO.bind ?_ (fun _ => ?_)

end Go.Proofs.Ytgmjolngnhdafaa.P

end
section
namespace Go.Proofs.Ytgmjolngnhdafaa.Kit
open Go Go.RowKit Go.Proofs.YtgmjolngnhdafaaW.PrintWords Go.Proofs.Ytgmjolngnhdafaa.P
set_option linter.unusedVariables false
theorem all_step {Q : Nat → Prop} {Z : Prop} {i n : Nat} {r : Bool} (hq : Q i) (hr : r = true ↔ (∀ j, i + 1 ≤ j → j < n → Q j) ∧ Z) : r = true ↔ (∀ j, i ≤ j → j < n → Q j) ∧ Z := by
  rw [hr]
  constructor
  · intro ⟨h2, hz⟩
    refine ⟨fun c h3 h4 => ?_, hz⟩
    rcases Nat.lt_or_ge i c with h5 | h5
    · exact h2 c h5 h4
    · have : c = i := by omega
      subst this
      exact hq
  · intro ⟨h2, hz⟩; exact ⟨fun c h3 h4 => h2 c (by omega) h4, hz⟩
theorem all_stop {Q : Nat → Prop} {Z : Prop} {i n : Nat} (hi : i < n) (hq : ¬ Q i) : (false = true) ↔ (∀ j, i ≤ j → j < n → Q j) ∧ Z := iff_no fun h => hq (h.1 i (Nat.le_refl _) hi)
theorem all_end {Q : Nat → Prop} {Z : Prop} {n : Nat} {r : Bool} (h : r = true ↔ Z) : r = true ↔ (∀ j, n ≤ j → j < n → Q j) ∧ Z := h.trans ⟨fun hz => ⟨fun j h1 h2 => absurd h2 (by omega), hz⟩, fun h => h.2⟩
theorem all_mem {α : Type} {xs : List α} {d : α} {Q : α → Prop} : (∀ j, 0 ≤ j → j < xs.length → Q (xs.getD j d)) ↔ ∀ x ∈ xs, Q x := by
  constructor
  · intro h x hx
    obtain ⟨i, hi, rfl⟩ := List.mem_iff_getElem.1 hx
    have := h i (Nat.zero_le _) hi
    rwa [getD_at hi] at this
  · intro h j _ hj
    rw [getD_at hj]
    exact h _ (List.getElem_mem hj)
/-- Whole numbers of the machine's. -/
def I64 (l : List Int) : Prop := ∀ t ∈ l, -9223372036854775808 ≤ t ∧ t ≤ 9223372036854775807
theorem I64.at {l : List Int} (h : I64 l) {i : Nat} (hi : i < l.length) : -9223372036854775808 ≤ l.getD i 0 ∧ l.getD i 0 ≤ 9223372036854775807 := by
  rw [getD_at hi]; exact h _ (List.getElem_mem hi)
theorem rdN {xs : List Int} (i : Nat) : rd xs (i : Int) = xs.getD i 0 := rfl
/-- What a shape of n locals is asked. -/
def ShOk (cs : List Cls) (n : Int) (b : Bool) (l m : List Int) : Prop :=
  (b = true ∧ (l.length : Int) = n ∧ m.length ≤ 4 ∧ (∀ t ∈ l, TyOk cs.length t) ∧ (∀ t ∈ m, TyOk cs.length t ∧ t ≠ 0)) ∨ (b = false ∧ l.length = 0 ∧ m.length = 0)
theorem spec_shapeOk {cs : List Cls} (hs : SmallC cs) (n : Int) (b : Bool) {l m : List Int} (hl : l.length ≤ 1048576) (hm : m.length ≤ 1048576) :
    Evp (fun k => spec_ShapeOk.f k cs n b l m) (fun r => r = true ↔ ClsOk cs ∧ ShOk cs n b l m) := by
  unfold spec_ShapeOk.f
  refine Evp.bind (spec_classesOk hs) fun c hc => Evp.ite (fun h => ?_) (fun h => Evp.pure _ (iff_no fun h2 => h (hc.2 h2.1)))
  have hok := hc.1 h
  refine Evp.ite (fun hb => ?_) (fun hb => Evp.ite (fun h1 => Evp.pure _ ?_) (fun h1 => Evp.pure _ (iff_no ?_)))
  · have jt : ¬ ShOk cs n b l m → Evp (fun k => spec_ShapeOk.j0 k cs true b l m) (fun r => r = true ↔ ClsOk cs ∧ ShOk cs n b l m) := fun h =>
      Evp.step (f := fun k => _) (fun k => by rw [spec_ShapeOk.j0]) (Evp.yes rfl (Evp.pure _ (iff_no fun h2 => h h2.2)))
    refine Evp.ite (fun h1 => ?_) (fun h1 => jt ?_)
    · by_cases h4 : m.length ≤ 4
      · rw [decide_eq_false (by omega)]
        refine Evp.step (f := fun k => _) (fun k => by rw [spec_ShapeOk.j0]) (Evp.no (by decide) ?_)
        have k1 : ∀ i, i ≤ m.length → Evp (fun k => spec_ShapeOk.l1 k cs (i : Int) b l m) (fun r => r = true ↔ (∀ j, i ≤ j → j < m.length → TyOk cs.length (m.getD j 0) ∧ m.getD j 0 ≠ 0) ∧ True) := by
          refine Evp.for_ ?_ (fun i hi ih => ?_)
          · refine Evp.step (f := fun k => _) (fun k => by rw [spec_ShapeOk.l1]) (Evp.no (by omega) (Evp.pure _ (all_end (iff_yes trivial))))
          · refine Evp.step (f := fun k => _) (fun k => by rw [spec_ShapeOk.l1, rdN]) (Evp.yes (by omega) (Evp.yes (by omega) ?_))
            refine Evp.bind (spec_typeOk hs _) fun d hd => Evp.ite (fun h5 => Evp.ite (fun h6 => Evp.pure _ (all_stop hi fun h7 => h7.2 h6)) (fun h6 => ?_)) (fun h5 => Evp.pure _ (all_stop hi fun h7 => h5 (hd.2 ⟨hok, h7.1⟩)))
            rw [w64' hi (by omega)]
            exact ih.mono fun r hr => all_step (Q := fun j => TyOk cs.length (m.getD j 0) ∧ m.getD j 0 ≠ 0) ⟨(hd.1 h5).2, h6⟩ hr
        have k0 : ∀ i, i ≤ l.length → Evp (fun k => spec_ShapeOk.l0 k cs (i : Int) b l m) (fun r => r = true ↔ (∀ j, i ≤ j → j < l.length → TyOk cs.length (l.getD j 0)) ∧ ((∀ j, 0 ≤ j → j < m.length → TyOk cs.length (m.getD j 0) ∧ m.getD j 0 ≠ 0) ∧ True)) := by
          refine Evp.for_ ?_ (fun i hi ih => ?_)
          · refine Evp.step (f := fun k => _) (fun k => by rw [spec_ShapeOk.l0]) (Evp.no (by omega) ?_)
            exact (k1 0 (Nat.zero_le _)).mono fun r hr => all_end hr
          · refine Evp.step (f := fun k => _) (fun k => by rw [spec_ShapeOk.l0, rdN]) (Evp.yes (by omega) (Evp.yes (by omega) ?_))
            refine Evp.bind (spec_typeOk hs _) fun d hd => Evp.ite (fun h5 => ?_) (fun h5 => Evp.pure _ (all_stop hi fun h7 => h5 (hd.2 ⟨hok, h7⟩)))
            rw [w64' hi (by omega)]
            exact ih.mono fun r hr => all_step (Q := fun j => TyOk cs.length (l.getD j 0)) (hd.1 h5).2 hr
        refine (k0 0 (Nat.zero_le _)).mono fun r hr => hr.trans ?_
        rw [all_mem (Q := fun t => TyOk cs.length t), all_mem (Q := fun t => TyOk cs.length t ∧ t ≠ 0)]
        unfold ShOk
        rw [hb]
        constructor
        · intro h5; exact ⟨hok, .inl ⟨rfl, h1, h4, h5.1, h5.2.1⟩⟩
        · intro h5
          rcases h5.2 with h6 | h6
          · exact ⟨h6.2.2.2.1, h6.2.2.2.2, trivial⟩
          · cases h6.1
      · rw [decide_eq_true (by omega)]
        refine jt ?_
        unfold ShOk
        rw [hb]
        intro h5
        rcases h5 with h5 | h5
        · exact h4 h5.2.2.1
        · cases h5.1
    · unfold ShOk
      rw [hb]
      intro h5
      rcases h5 with h5 | h5
      · exact h1 h5.2.1
      · cases h5.1
  · have hb' : b = false := by simpa using hb
    rw [beq_iff_eq]
    unfold ShOk
    rw [hb']
    constructor
    · intro h2; exact ⟨hok, .inr ⟨rfl, by omega, by omega⟩⟩
    · intro h2
      rcases h2.2 with h3 | h3
      · cases h3.1
      · omega
  · have hb' : b = false := by simpa using hb
    unfold ShOk
    rw [hb']
    intro h2
    rcases h2.2 with h3 | h3
    · cases h3.1
    · omega
theorem impl_shapeOk' {cs : List Cls} (hs : SmallC cs) (n : Int) (b : Bool) {l m : List Int} (hl : l.length ≤ 1048576) (hm : m.length ≤ 1048576) (il : I64 l) (im : I64 m) :
    Evp (fun k => impl_shapeOk.f k cs n b l m) (fun r => r = true ↔ ShOk cs n b l m) := by
  have hl0 := hs.1
  unfold impl_shapeOk.f
  refine Evp.ite (fun hb => ?_) (fun hb => Evp.ite (fun h1 => Evp.pure _ ?_) (fun h1 => Evp.pure _ (iff_no ?_)))
  · have jt : ¬ ShOk cs n b l m → Evp (fun k => impl_shapeOk.j0 k cs true b l m) (fun r => r = true ↔ ShOk cs n b l m) := fun h =>
      Evp.step (f := fun k => _) (fun k => by rw [impl_shapeOk.j0]) (Evp.yes rfl (Evp.pure _ (iff_no h)))
    refine Evp.ite (fun h1 => ?_) (fun h1 => jt ?_)
    · by_cases h4 : m.length ≤ 4
      · rw [decide_eq_false (by omega)]
        refine Evp.step (f := fun k => _) (fun k => by rw [impl_shapeOk.j0]) (Evp.no (by decide) ?_)
        have k1 : ∀ i, i ≤ m.length → Evp (fun k => impl_shapeOk.l1 k cs m (m.length : Int) (i : Int)) (fun r => r = true ↔ (∀ j, i ≤ j → j < m.length → TyOk cs.length (m.getD j 0) ∧ m.getD j 0 ≠ 0) ∧ True) := by
          refine Evp.for_ ?_ (fun i hi ih => ?_)
          · refine Evp.step (f := fun k => _) (fun k => by rw [impl_shapeOk.l1]) (Evp.no (by omega) (Evp.pure _ (all_end (iff_yes trivial))))
          · obtain ⟨q, hq, hq2⟩ := kindOf_ty (n := cs.length) (t := m.getD i 0) (by omega) (im.at hi).1 (im.at hi).2
            refine Evp.step (f := fun k => _) (fun k => by rw [impl_shapeOk.l1, rdN, hq, Option.bind_some]) (Evp.yes (by omega) (Evp.yes (by omega) (Evp.yes (by omega) ?_)))
            refine Evp.ite (fun h6 => Evp.pure _ (all_stop hi fun h7 => h7.2 h6)) (fun h6 => ?_)
            rcases hq2 with ⟨h7, rfl⟩ | ⟨h7, rfl⟩
            · refine Evp.no (by have := tyOk_iff.1 h7; omega) ?_
              rw [w64' hi (by omega)]
              exact ih.mono fun r hr => all_step (Q := fun j => TyOk cs.length (m.getD j 0) ∧ m.getD j 0 ≠ 0) ⟨h7, h6⟩ hr
            · exact Evp.yes rfl (Evp.pure _ (all_stop hi fun h8 => h7 h8.1))
        have k0 : ∀ i, i ≤ l.length → Evp (fun k => impl_shapeOk.l0 k cs l (l.length : Int) (i : Int) b l m) (fun r => r = true ↔ (∀ j, i ≤ j → j < l.length → TyOk cs.length (l.getD j 0)) ∧ ((∀ j, 0 ≤ j → j < m.length → TyOk cs.length (m.getD j 0) ∧ m.getD j 0 ≠ 0) ∧ True)) := by
          refine Evp.for_ ?_ (fun i hi ih => ?_)
          · refine Evp.step (f := fun k => _) (fun k => by rw [impl_shapeOk.l0]) (Evp.no (by omega) ?_)
            exact (k1 0 (Nat.zero_le _)).mono fun r hr => all_end hr
          · obtain ⟨q, hq, hq2⟩ := kindOf_ty (n := cs.length) (t := l.getD i 0) (by omega) (il.at hi).1 (il.at hi).2
            refine Evp.step (f := fun k => _) (fun k => by rw [impl_shapeOk.l0, rdN, hq, Option.bind_some]) (Evp.yes (by omega) (Evp.yes (by omega) (Evp.yes (by omega) ?_)))
            rcases hq2 with ⟨h7, rfl⟩ | ⟨h7, rfl⟩
            · refine Evp.no (by have := tyOk_iff.1 h7; omega) ?_
              rw [w64' hi (by omega)]
              exact ih.mono fun r hr => all_step (Q := fun j => TyOk cs.length (l.getD j 0)) h7 hr
            · exact Evp.yes rfl (Evp.pure _ (all_stop hi h7))
        refine (k0 0 (Nat.zero_le _)).mono fun r hr => hr.trans ?_
        rw [all_mem (Q := fun t => TyOk cs.length t), all_mem (Q := fun t => TyOk cs.length t ∧ t ≠ 0)]
        unfold ShOk
        rw [hb]
        constructor
        · intro h5; exact .inl ⟨rfl, h1, h4, h5.1, h5.2.1⟩
        · intro h5
          rcases h5 with h6 | h6
          · exact ⟨h6.2.2.2.1, h6.2.2.2.2, trivial⟩
          · cases h6.1
      · rw [decide_eq_true (by omega)]
        refine jt ?_
        unfold ShOk
        rw [hb]
        intro h5
        rcases h5 with h5 | h5
        · exact h4 h5.2.2.1
        · cases h5.1
    · unfold ShOk
      rw [hb]
      intro h5
      rcases h5 with h5 | h5
      · exact h1 h5.2.1
      · cases h5.1
  · have hb' : b = false := by simpa using hb
    rw [beq_iff_eq]
    unfold ShOk
    rw [hb']
    constructor
    · intro h2; exact .inr ⟨rfl, by omega, by omega⟩
    · intro h2
      rcases h2 with h3 | h3
      · cases h3.1
      · omega
  · have hb' : b = false := by simpa using hb
    unfold ShOk
    rw [hb']
    intro h2
    rcases h2 with h3 | h3
    · cases h3.1
    · omega
theorem impl_ShapeOk' {cs : List Cls} (hs : SmallC cs) (n : Int) (b : Bool) {l m : List Int} (hl : l.length ≤ 1048576) (hm : m.length ≤ 1048576) (il : I64 l) (im : I64 m) :
    Evp (fun k => impl_ShapeOk.f k cs n b l m) (fun r => r = true ↔ ClsOk cs ∧ ShOk cs n b l m) := by
  unfold impl_ShapeOk.f
  refine Evp.bind (impl_classesOk hs) fun c hc => Evp.ite (fun h => ?_) (fun h => Evp.pure _ (iff_no fun h2 => h (hc.2 h2.1)))
  exact Evp.bind (impl_shapeOk' hs n b hl hm il im) fun d hd => Evp.pure _ (hd.trans ⟨fun h3 => ⟨hc.1 h, h3⟩, fun h3 => h3.2⟩)
end Go.Proofs.Ytgmjolngnhdafaa.Kit

end
section
namespace Go.Proofs.Ytgmjolngnhdafaa.Kit
open Go Go.RowKit Go.Proofs.YtgmjolngnhdafaaW.PrintWords Go.Proofs.Ytgmjolngnhdafaa.P
set_option linter.unusedVariables false
abbrev LCls := S63
def cvC (c : LCls) : Cls := ⟨c.f0, c.f1⟩
theorem rdL {xs : List LCls} {i : Nat} (h : i < xs.length) : rd_T63 xs (i : Int) = xs[i] := getD_at h _
theorem rdC {xs : List Cls} {i : Nat} (h : i < xs.length) : rd_T38 xs (i : Int) = xs[i] := getD_at h _
theorem wf64 {n : Int} (h : (Lit.int .i64 n).wf = true) : -9223372036854775808 ≤ n ∧ n ≤ 9223372036854775807 := by
  simp [Lit.wf, IntKind.min, IntKind.max, IntKind.bits, IntKind.signed] at h
  omega
theorem sz_ints {l : List Int} {a : Int} (h0 : 0 ≤ a) (h1 : a ≤ 1048576) (hl : l.length ≤ 9223372036854775807) : ∃ t, laws_szIntS.f l a = some t ∧ (0 ≤ t → (l.length : Int) + t = a) := by
  unfold laws_szIntS.f
  rw [w64 (by omega) (by omega)]
  by_cases h : a - (l.length : Int) < 0
  · rw [if_pos h]; exact ⟨_, rfl, by omega⟩
  · rw [if_neg h]; exact ⟨_, rfl, by omega⟩
theorem sz_cls {l : List LCls} (hl : l.length ≤ 9223372036854775807) (hw : ∀ y ∈ l, wfS63 y) :
    Evp (fun k => laws_szClassS.f k l 1048576) (fun t => 0 ≤ t → t ≤ 1048576 ∧ SmallC (l.map cvC)) := by
  unfold laws_szClassS.f
  rw [w64 (by omega) (by omega)]
  refine Evp.ite (fun _ => Evp.pure _ (by omega)) (fun h => ?_)
  have key : ∀ i, i ≤ l.length → ∀ s : Int, (0 ≤ s ∧ s ≤ 1048576) → Evp (fun k => laws_szClassS.l0 k l s (i : Int)) (fun t => 0 ≤ t → t ≤ s ∧ ∀ o ∈ l.drop i, o.f1.length ≤ 1048576) := by
    refine Evp.fors (g := fun i s k => laws_szClassS.l0 k l s (i : Int)) (I := fun _ s => 0 ≤ s ∧ s ≤ 1048576) (R := fun i s t => 0 ≤ t → t ≤ s ∧ ∀ o ∈ l.drop i, o.f1.length ≤ 1048576) (fun s hs => ?_) (fun i hil ih s hs => ?_)
    · refine Evp.step (f := fun k => _) (fun k => by rw [laws_szClassS.l0]) (Evp.no (by omega) (Evp.pure _ (fun _ => ⟨by omega, by simp⟩)))
    · have hil2 := (hw _ (List.getElem_mem hil)).2.1
      obtain ⟨t, ht, ht2⟩ := sz_ints (l := l[i].f1) hs.1 hs.2 hil2
      refine Evp.step (f := fun k => _) (fun k => by rw [laws_szClassS.l0, rdL hil, laws_szClass.f, ht, Option.bind_some]) (Evp.yes (by omega) (Evp.yes (by omega) ?_))
      by_cases h3 : t < 0
      · simp only [if_pos h3, Option.bind_some]
        exact Evp.pure _ (by omega)
      · simp only [if_neg h3, Option.bind_some]
        rw [w64' hil (by omega)]
        refine (ih t (by omega)).mono fun r hr h0 => ?_
        obtain ⟨h4, h5⟩ := hr h0
        refine ⟨by omega, ?_⟩
        rw [drop_at hil]
        intro o ho
        rcases List.mem_cons.1 ho with rfl | ho
        · omega
        · exact h5 o ho
  refine (key 0 (Nat.zero_le _) _ (by omega)).mono fun t ht h0 => ?_
  obtain ⟨h2, h3⟩ := ht h0
  refine ⟨by omega, by rw [List.length_map]; omega, fun i hi => ?_⟩
  rw [List.length_map] at hi
  have e : flds (l.map cvC) i = l[i].f1 := by unfold flds; rw [getD_at (by simpa using hi)]; simp [cvC]
  rw [e]
  exact ⟨h3 _ (by simp), fun t ht => wf64 ((hw _ (List.getElem_mem hi)).2.2 t ht)⟩
/-- A list filled place by place. -/
theorem set_fill {α β : Type} (l : List α) (f : α → β) (z : β) {i : Nat} (hi : i < l.length) : ((l.take i).map f ++ List.replicate (l.length - i) z).set i (f l[i]) = (l.take (i + 1)).map f ++ List.replicate (l.length - (i + 1)) z := by
  rw [List.take_succ_eq_append_getElem hi, List.map_append, List.append_assoc]
  rw [List.set_append_right _ _ (by simp; omega)]
  congr 1
  rw [show l.length - i = (l.length - (i + 1)) + 1 by omega, List.replicate_succ]
  simp [Nat.min_eq_left (Nat.le_of_lt hi)]
theorem to_ints {l : List Int} (hl : l.length ≤ 1048576) : Evp (fun k => laws_toIntS.f k l) (fun r => r = l) := by
  unfold laws_toIntS.f
  refine Evp.yes (by omega) (Evp.yes (by omega) ?_)
  have key : ∀ i, i ≤ l.length → ∀ s : List Int, s = (l.take i).map id ++ List.replicate (l.length - i) 0 → Evp (fun k => laws_toIntS.l0 k l s (i : Int)) (fun r => r = l) := by
    refine Evp.fors (g := fun i s k => laws_toIntS.l0 k l s (i : Int)) (I := fun i s => s = (l.take i).map id ++ List.replicate (l.length - i) 0) (R := fun _ _ r => r = l) (fun s hs => ?_) (fun i hi ih s hs => ?_)
    · subst hs
      refine Evp.step (f := fun k => _) (fun k => by rw [laws_toIntS.l0]) (Evp.no (by omega) (Evp.pure _ (by simp)))
    · have hsl : s.length = l.length := by rw [hs]; simp; omega
      refine Evp.step (f := fun k => _) (fun k => by rw [laws_toIntS.l0, rdInt hi]) (Evp.yes (by omega) (Evp.yes (by omega) (Evp.yes (by omega) ?_)))
      rw [w64' hi (by omega)]
      refine ih _ ?_
      rw [hs]
      exact set_fill l id 0 hi
  exact key 0 (Nat.zero_le _) _ (by simp)
theorem to_cls {l : List LCls} (hl : SmallC (l.map cvC)) : Evp (fun k => laws_toClassS.f k l) (fun r => r = l.map cvC) := by
  have hl1 := hl.1
  rw [List.length_map] at hl1
  unfold laws_toClassS.f
  refine Evp.yes (by omega) (Evp.yes (by omega) ?_)
  have key : ∀ i, i ≤ l.length → ∀ s : List Cls, s = (l.take i).map cvC ++ List.replicate (l.length - i) z38 → Evp (fun k => laws_toClassS.l0 k l s (i : Int)) (fun r => r = l.map cvC) := by
    refine Evp.fors (g := fun i s k => laws_toClassS.l0 k l s (i : Int)) (I := fun i s => s = (l.take i).map cvC ++ List.replicate (l.length - i) z38) (R := fun _ _ r => r = l.map cvC) (fun s hs => ?_) (fun i hi ih s hs => ?_)
    · subst hs
      refine Evp.step (f := fun k => _) (fun k => by rw [laws_toClassS.l0]) (Evp.no (by omega) (Evp.pure _ (by simp)))
    · have hsl : s.length = l.length := by rw [hs]; simp; omega
      refine Evp.step (f := fun k => _) (fun k => by rw [laws_toClassS.l0, rdL hi]) (Evp.yes (by omega) (Evp.yes (by omega) ?_))
      refine Evp.bind (P := fun r => r = (l[i].f0, l[i].f1)) ?_ (fun a ha => ?_)
      · unfold laws_toClass.f
        have e : flds (l.map cvC) i = l[i].f1 := by unfold flds; rw [getD_at (by simpa using hi)]; simp [cvC]
        have := (hl.2 i (by simpa using hi)).1
        rw [e] at this
        exact Evp.bind (to_ints this) (fun a ha => Evp.pure _ (by rw [ha]))
      · subst ha
        refine Evp.yes (by omega) ?_
        rw [w64' hi (by omega)]
        refine ih _ ?_
        rw [hs]
        exact set_fill l cvC z38 hi
  exact key 0 (Nat.zero_le _) _ (by simp)
theorem eq_ints {l : List Int} (hl : l.length ≤ 1048576) : Evp (fun k => laws_eqIntS.f k l l) (fun r => r = true) := by
  unfold laws_eqIntS.f
  refine Evp.yes rfl ?_
  refine Evp.for_ (n := l.length) (g := fun i k => laws_eqIntS.l0 k l l (i : Int)) (R := fun _ r => r = true) ?_ (fun i hi ih => ?_) 0 (Nat.zero_le _)
  · refine Evp.step (f := fun k => _) (fun k => by rw [laws_eqIntS.l0]) (Evp.no (by omega) (Evp.pure _ rfl))
  · refine Evp.step (f := fun k => _) (fun k => by rw [laws_eqIntS.l0]) (Evp.yes (by omega) (Evp.yes (by omega) (Evp.yes (by omega) (Evp.yes rfl ?_))))
    rw [w64' hi (by omega)]
    exact ih
theorem eq_cls {l : List Cls} (hl : SmallC l) : Evp (fun k => laws_eqClassS.f k l l) (fun r => r = true) := by
  have hl1 := hl.1
  unfold laws_eqClassS.f
  refine Evp.yes rfl ?_
  refine Evp.for_ (n := l.length) (g := fun i k => laws_eqClassS.l0 k l l (i : Int)) (R := fun _ r => r = true) ?_ (fun i h ih => ?_) 0 (Nat.zero_le _)
  · refine Evp.step (f := fun k => _) (fun k => by rw [laws_eqClassS.l0]) (Evp.no (by omega) (Evp.pure _ rfl))
  · refine Evp.step (f := fun k => _) (fun k => by rw [laws_eqClassS.l0]) (Evp.yes (by omega) (Evp.yes (by omega) (Evp.yes (by omega) ?_)))
    refine Evp.bind (P := fun r => r = true) ?_ (fun a ha => ?_)
    · unfold laws_eqClass.f
      rw [rdFlds]
      exact Evp.yes rfl (Evp.bind (eq_ints (hl.2 i h).1) (fun a ha => Evp.yes ha (Evp.pure _ rfl)))
    · refine Evp.yes ha ?_
      rw [w64' h (by omega)]
      exact ih
theorem bne_no {a b : Bool} {p : Prop} (ha : a = true ↔ p) (hb : b = true ↔ p) : ¬ ((b != a) = true) := by
  rw [same_of hb ha]; simp
/-- A law over classes: the two answer alike, and the arguments stay. -/
theorem exact_cls {l : List LCls} (hl : l.length ≤ 9223372036854775807) (hw : ∀ y ∈ l, wfS63 y) {s i : Nat → List Cls → Option Bool} {p : List Cls → Prop}
    (hs : ∀ cs, SmallC cs → Evp (fun k => s k cs) (fun r => r = true ↔ p cs)) (hi : ∀ cs, SmallC cs → Evp (fun k => i k cs) (fun r => r = true ↔ p cs)) :
    Evp (fun k => (laws_szClassS.f k l 1048576).bind fun t => (if t < 0 then (some true) else ((laws_toClassS.f k l).bind fun a => ((s k a).bind fun x => ((laws_toClassS.f k l).bind fun b => ((i k b).bind fun y => (if (y != x) = true then (some false) else ((laws_toClassS.f k l).bind fun c => ((laws_eqClassS.f k b c).bind fun e => (if e = true then (some true) else (some false)))))))))))
      (fun r => r = true) := by
  refine Evp.bind (sz_cls hl hw) fun t ht => Evp.ite (fun _ => Evp.pure _ rfl) (fun h => ?_)
  have hc := (ht (by omega)).2
  refine Evp.bind (to_cls hc) fun a ha => ?_
  subst ha
  refine Evp.bind (hs _ hc) fun x hx => Evp.bind (to_cls hc) fun b hb => ?_
  subst hb
  refine Evp.bind (hi _ hc) fun y hy => Evp.no (bne_no hx hy) (Evp.bind (to_cls hc) fun c hc' => ?_)
  subst hc'
  exact Evp.bind (eq_cls hc) fun e he => Evp.yes he (Evp.pure _ rfl)
theorem sz_shape {x0 : Bool} {l1 l2 : List Int} {a : Int} (h0 : 0 ≤ a) (h1 : a ≤ 1048576) (hl1 : l1.length ≤ 9223372036854775807) (hl2 : l2.length ≤ 9223372036854775807) :
    ∃ t, laws_szShape.f x0 l1 l2 a = some t ∧ (0 ≤ t → t ≤ a ∧ l1.length ≤ 1048576 ∧ l2.length ≤ 1048576) := by
  unfold laws_szShape.f
  obtain ⟨t, ht, ht2⟩ := sz_ints (l := l1) h0 h1 hl1
  rw [ht, Option.bind_some]
  by_cases h : t < 0
  · rw [if_pos h]; exact ⟨_, rfl, by omega⟩
  · rw [if_neg h]
    obtain ⟨q, hq, hq2⟩ := sz_ints (l := l2) (a := t) (by omega) (by omega) hl2
    rw [hq, Option.bind_some]
    by_cases h' : q < 0
    · rw [if_pos h']; exact ⟨_, rfl, by omega⟩
    · rw [if_neg h']; exact ⟨_, rfl, by omega⟩
theorem to_shape {x0 : Bool} {l1 l2 : List Int} (hl1 : l1.length ≤ 1048576) (hl2 : l2.length ≤ 1048576) : Evp (fun k => laws_toShape.f k x0 l1 l2) (fun r => r = (x0, l1, l2)) := by
  unfold laws_toShape.f
  exact Evp.bind (to_ints hl1) fun a ha => Evp.bind (to_ints hl2) fun b hb => Evp.pure _ (by rw [ha, hb])
theorem eq_shape {x0 : Bool} {l1 l2 : List Int} (hl1 : l1.length ≤ 1048576) (hl2 : l2.length ≤ 1048576) : Evp (fun k => laws_eqShape.f k x0 l1 l2 x0 l1 l2) (fun r => r = true) := by
  unfold laws_eqShape.f
  exact Evp.no (by simp) (Evp.bind (eq_ints hl1) fun a ha => Evp.yes ha (Evp.bind (eq_ints hl2) fun b hb => Evp.yes hb (Evp.pure _ rfl)))
end Go.Proofs.Ytgmjolngnhdafaa.Kit

end
section
namespace Go.Proofs.Ytgmjolngnhdafaa.Kit
open Go Go.RowKit Go.Proofs.YtgmjolngnhdafaaW.PrintWords Go.Proofs.Ytgmjolngnhdafaa.P
theorem i64_of {l : List Int} (h : ∀ y ∈ l, (Lit.int .i64 y).wf = true) : I64 l := fun t ht => wf64 (h t ht)
end Go.Proofs.Ytgmjolngnhdafaa.Kit
namespace Go.Proofs.Ytgmjolngnhdafaa.Pure
open Go Go.RowKit Go.Proofs.YtgmjolngnhdafaaW.PrintWords Go.Proofs.Ytgmjolngnhdafaa.P Go.Proofs.Ytgmjolngnhdafaa.Kit
theorem FnExactShapeOk : laws_FnExactShapeOk.Pure := by
  intro l0 n x w0 wn wx
  obtain ⟨_, ⟨w1, w2⟩, w3, w4⟩ := wx
  refine Evp.rounds ?_
  unfold laws_FnExactShapeOk.f
  refine Evp.bind (sz_cls w0.1 w0.2) fun t ht => Evp.ite (fun _ => Evp.pure _ rfl) (fun h => ?_)
  obtain ⟨ht1, hc⟩ := ht (by omega)
  obtain ⟨q, hq, hq2⟩ := sz_shape (x0 := x.f0) (by omega : 0 ≤ t) ht1 w1 w3
  simp only [hq, Option.bind_some]
  refine Evp.ite (fun _ => Evp.pure _ rfl) (fun h' => ?_)
  obtain ⟨_, b1, b2⟩ := hq2 (by omega)
  refine Evp.bind (to_cls hc) fun a ha => Evp.bind (to_shape b1 b2) fun s hs => ?_
  subst ha hs
  refine Evp.bind (spec_shapeOk hc n x.f0 b1 b2) fun y hy => Evp.bind (to_cls hc) fun a ha => Evp.bind (to_shape b1 b2) fun s hs => ?_
  subst ha hs
  refine Evp.bind (impl_ShapeOk' hc n x.f0 b1 b2 (i64_of w2) (i64_of w4)) fun z hz => Evp.no (bne_no hy hz) (Evp.bind (to_cls hc) fun a ha => ?_)
  subst ha
  refine Evp.bind (eq_cls hc) fun e he => Evp.yes he (Evp.bind (to_shape b1 b2) fun s hs => ?_)
  subst hs
  exact Evp.bind (eq_shape b1 b2) fun e he => Evp.yes he (Evp.pure _ rfl)
end Go.Proofs.Ytgmjolngnhdafaa.Pure

end
section
namespace Go.Proofs.Ytgmjolngnhdafaa.fnExactShapeOk
open Go Go.ChangeShapes Go.WideShapes Go.ChangeAt Go.RowKit Go.Proofs.YtgmjolngnhdafaaW.PrintWords Go.Proofs.Ytgmjolngnhdafaa.P Go.Proofs.Ytgmjolngnhdafaa.Open
set_option linter.unusedVariables false
theorem own : ownKnob Try.prog.godebug = none := by kernel_rfl
theorem laidOut : laidOutB Try.prog = true := by kernel_rfl
set_option maxRecDepth 100000 in
theorem lifted (os : Os) (started : os.Started) (H : Type) (enc : TypeId × Value → H) :
    ReturnsInHanded {} Try.checked os 15 .any (Rows.fnExactShapeOkSpec.pre6 enc Try.prog Try.f15 Rows.fnExactShapeOkRow.domain false) (Rows.fnExactShapeOkSpec.post enc Try.prog Try.f15 false true false false) := by
  refine returnsInHanded_of_change_sized (C := Try.checked) own started (by kernel_rfl) Try.func15
    (ChangeSpec.witness6 (enc := enc) (C := Try.checked) false ⟨#[], #[.slice none 0 0, .int .i64 0, .agg #[.bool false, .slice none 0 0, .slice none 0 0]], []⟩ 8 (by kernel_rfl) (by kernel_rfl) (by kernel_rfl) (by kernel_rfl)) ?_
  intro W base args ds gs before hval0 hW hcnd hsz0 _
  have hval : ∀ (j : Nat) t v, Try.f15.params[j]? = some t → args[j]? = some v → Value.okWide Try.prog W .any base t v := hval0
  have hW' := hW
  obtain ⟨p, q, hA0, hV, rfl, hfz, hnd⟩ := hW
  have hA : DataW.TrodAll enc Try.prog W 0 (fun _ => true) true Try.f15.params.toList args.toList ds p := hA0
  rw [Try.params15] at hA hval
  obtain ⟨v0, vs0, d0, ds0, p0, q0, hargs, rfl, rfl, h0, r0⟩ := trodAll_cons hA
  obtain ⟨v1, vs1, d1, ds1, p1, q1, rfl, rfl, rfl, h1, r1⟩ := trodAll_cons r0
  obtain ⟨v2, vs2, d2, ds2, p2, q2, rfl, rfl, rfl, h2, r2⟩ := trodAll_cons r1
  obtain ⟨rfl, rfl, rfl⟩ := trodAll_nil r2
  obtain rfl : args = #[v0, v1, v2] := by cases args; simp_all
  obtain ⟨rfl, rfl⟩ := trodVars_none hV
  have k0 := h0
  have lt0 : ∀ x ∈ p0, x.block < W.heap.size := by obtain ⟨m, hm⟩ := k0; exact DataW.trod_lt m _ _ _ hm
  obtain ⟨l0, g0, wf0⟩ := opens_arg (v := v0) h0 (opens_slice Try.underlying22 (by kernel_rfl) (opens63 H enc W 0 (fun _ => true) true))
  obtain ⟨a0, len0, cap0, rfl⟩ := okWide_slice Try.underlying22 (hval 0 22 v0 rfl rfl)
  obtain ⟨A0, c0, e0, hc0, hr0⟩ := g0
  simp only [Value.cells, List.cons.injEq, Value.slice.injEq, and_true] at e0
  obtain ⟨rfl, rfl, rfl⟩ := e0
  obtain ⟨a1, rfl, rfl, rfl, w1⟩ := open_int Try.underlying3 (hval 1 3 v1 rfl rfl) h1
  have k2 := h2
  have lt2 : ∀ x ∈ p2, x.block < W.heap.size := by obtain ⟨m, hm⟩ := k2; exact DataW.trod_lt m _ _ _ hm
  obtain ⟨x2, g2, wf2⟩ := opens_arg (v := v2) h2 (opens49 H enc W 0 (fun _ => true) true)
  obtain ⟨cs2, rfl, z2⟩ := okWide_struct Try.underlying49 (hval 2 49 v2 rfl rfl)
  obtain ⟨A2_1, c2_1, A2_2, c2_2, e2, hc2_1, hr2_1, hc2_2, hr2_2⟩ := k49_open g2
  obtain rfl : cs2 = #[.bool x2.f0, .slice A2_1 x2.f1.length c2_1, .slice A2_2 x2.f2.length c2_2] := by cases cs2; simpa [Value.cells] using e2
  clear hA0 hval0 hsz0
  obtain ⟨k, h⟩ := Pure.FnExactShapeOk l0 a1 x2 wf0 w1 wf2
  refine (laws_FnExactShapeOk.calls k _ _ l0 a1 x2.f0 _ _ x2.f1 _ _ x2.f2 true W hr0 hc0 hr2_1 hc2_1 hr2_2 hc2_2 h rfl).mono fun e W' ⟨he, bel⟩ => ?_
  subst he
  exact ⟨_, rfl, _, _, _, [], _, [], hW', trodAll_mk1 (shut_bool Try.underlying4 _), (trodAll_cons_mk (Below.trod laidOut (by kernel_rfl) (of_decide_eq_true (by kernel_rfl)) k0 bel lt0) (trodAll_cons_mk (shut_int Try.underlying3 w1) (trodAll_cons_mk (Below.trod laidOut (by kernel_rfl) (of_decide_eq_true (by kernel_rfl)) k2 bel lt2) trodAll_mk0))), rfl, bel.frame _, fun h => by cases h⟩
theorem over : Rows.fnExactShapeOkRow.holds Try.pinned (OpenSpec.ofChange Rows.fnExactShapeOkSpec) :=
  OpenClaim.holds_of_wide 15 Try.f15 rfl rfl rfl rfl rfl rfl rfl ⟨rfl, rfl, rfl, rfl, rfl⟩ rfl rfl rfl rfl rfl (by kernel_rfl) Try.func15 (by show joinedFacts Try.prog _ _ _ _ = true; unfold joinedFacts; rw [Go.Proofs.Ytgmjolngnhdafaa.enter, Go.Proofs.Ytgmjolngnhdafaa.make, Go.Proofs.Ytgmjolngnhdafaa.lifts]; kernel_rfl)
    (of_decide_eq_true (by kernel_rfl)) (by unfold Func.isWrapper; first | (rw [if_pos (by decide +kernel)]; kernel_rfl) | (rw [if_neg (by decide +kernel)]; exact ⟨rfl, rfl⟩))
    (fun os started H enc _ => lifted os started H enc)
theorem proved : Rows.FnExactShapeOkSaid := over
end Go.Proofs.Ytgmjolngnhdafaa.fnExactShapeOk
namespace Go.Proofs.Ytgmjolngnhdafaa
/-- The row, under a short name, for the claim. -/
theorem fnExactShapeOk_holds : Rows.FnExactShapeOkSaid := fnExactShapeOk.proved
end Go.Proofs.Ytgmjolngnhdafaa

end
