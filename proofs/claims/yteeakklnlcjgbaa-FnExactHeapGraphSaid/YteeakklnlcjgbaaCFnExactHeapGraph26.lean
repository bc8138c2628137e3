/- A part of the claim FnExactHeapGraph: texts of this session and texts that its program printed out of the translation, joined. -/
import Derived.Test.YteeakklnlcjgbaaCFnExactHeapGraph21
import Derived.Test.YteeakklnlcjgbaaCFnExactHeapGraph22
import Derived.Test.YteeakklnlcjgbaaCFnExactHeapGraph25
import Derived.Test.YteeakklnlcjgbaaCFnExactHeapGraph23
import Derived.Test.YteeakklnlcjgbaaCFnExactHeapGraph24
import Derived.Test.YteeakklnlcjgbaaCFnExactHeapGraph0
import Derived.Test.YteeakklnlcjgbaaCFnExactHeapGraph1
import Derived.Test.YteeakklnlcjgbaaCFnExactHeapGraph2
import Derived.Test.YteeakklnlcjgbaaCFnExactHeapGraph3
import Derived.Test.YteeakklnlcjgbaaCFnExactHeapGraph4
import Derived.Test.YteeakklnlcjgbaaCFnExactHeapGraph5
import Derived.Test.YteeakklnlcjgbaaCFnExactHeapGraph6
import Derived.Test.YteeakklnlcjgbaaCFnExactHeapGraph7
import Derived.Test.YteeakklnlcjgbaaCFnExactHeapGraph8
import Derived.Test.YteeakklnlcjgbaaCFnExactHeapGraph9
import Derived.Test.YteeakklnlcjgbaaCFnExactHeapGraph10
import Derived.Test.YteeakklnlcjgbaaCFnExactHeapGraph11
import Derived.Test.YteeakklnlcjgbaaCFnExactHeapGraph12
import Derived.Test.YteeakklnlcjgbaaCFnExactHeapGraph13
import Derived.Test.YteeakklnlcjgbaaCFnExactHeapGraph14
import Derived.Test.YteeakklnlcjgbaaCFnExactHeapGraph15
import Derived.Test.YteeakklnlcjgbaaCFnExactHeapGraph16
import Derived.Test.YteeakklnlcjgbaaCFnExactHeapGraph17
import Derived.Test.YteeakklnlcjgbaaCFnExactHeapGraph18
import Derived.Test.YteeakklnlcjgbaaCFnExactHeapGraph19
import Derived.Test.YteeakklnlcjgbaaCFnExactHeapGraph20
section

namespace Go.Proofs.Yteeakklnlcjgbaa.P
open Go.RowKit Go.Proofs.YteeakklnlcjgbaaW.PrintWords Go.Proofs.YteeakklnlcjgbaaW.PrintLast Go.Proofs.YteeakklnlcjgbaaW.PrintMore
attribute [local go_sem] max2_int min2_int max_two min_two max_three min_three max_four min_four
set_option linter.unusedVariables false
set_option linter.unusedSimpArgs false
set_option maxHeartbeats 8000000 in
set_option maxRecDepth 100000 in
theorem laws_eqObj.calls (k : Nat) (a0_0 : Int) (A0_1 : Option Addr) (c0_1 : Nat) (l0_1 : List (S46)) (a1_0 : Int) (A1_1 : Option Addr) (c1_1 : Nat) (l1_1 : List (S46)) (r : Bool) (w : World) (hr0_1 : Kd.C k46 w A0_1 l0_1.length l0_1) (hc0_1 : l0_1.length ≤ c0_1) (hr1_1 : Kd.C k46 w A1_1 l1_1.length l1_1) (hc1_1 : l1_1.length ≤ c1_1) (h : laws_eqObj.f k a0_0 l0_1 a1_0 l1_1 = some r) :
    Calls Try.prog 40 #[.agg #[.int .i64 a0_0, .slice A0_1 l0_1.length c0_1], .agg #[.int .i64 a1_0, .slice A1_1 l1_1.length c1_1]] w fun e w' => e = .returned (.bool r) ∧ Below w.heap.size w w' := by
  have hu48 := Try.underlying48
  have HR0_1 := Aside0.mk hr0_1
  have HC0_1 := Aside0.mk hc0_1
  clear hr0_1 hc0_1
  have HR1_1 := Aside0.mk hr1_1
  have HC1_1 := Aside0.mk hc1_1
  clear hr1_1 hc1_1
  have HB := Aside0.mk (Below.refl w.heap.size w)
  have H : (if a0_0 = a1_0 then ((laws_eqValS.f k l0_1 l1_1).bind fun t187 => (if t187 = true then (some true) else (some false))) else (some false)) = some r := h
  clear h
  by_cases c3 : a0_0 = a1_0
  · rw [if_pos c3] at H
    have c3b0 : (a0_0 == a1_0) = true := beq_iff_eq.mpr c3
    have c3b1 : (a0_0 != a1_0) = false := bne_eq_false_iff_eq.mpr c3
    clear c3
    replace H := Option.bind_eq_some_iff.mp H
    obtain ⟨t187, A40, H⟩ := H
    replace H : (if t187 = true then (some true) else (some false)) = some r := H
    have A4 := Aside0.mk A40
    clear A40
    by_cases c5 : t187 = true
    · subst c5
      have H1 : (some true) = some r := by rw [if_pos rfl] at H; exact H
      clear H
      have H := H1
      clear H1
      obtain rfl := Option.some.inj H
      simp only [Option.some.injEq, Prod.mk.injEq] at H
      obtain ⟨rfl⟩ := H
      go_enter Try.func40, Try.ntmps40
      go_wp2_with (first | ((with_reducible refine gate_dst (N := 2) rfl ?_); refine box_event ?hg (N := 2) ?hd (cs := #[.int .i64 a0_0, .slice A0_1 l0_1.length c0_1]) (t := 48) ?hr ?_; (case hd => rfl); (case hg => rfl); (case hr => first | (go_simp; done) | (go_simp; rfl)); intro gb185 hg w6 hbox hb; have n0_ := Aside0.mk (below_step (by repeat (first | (with_reducible first | exact HB.out | apply below_alloc | apply pw_below_drewN | apply below_drew1) | exact HB.out)) hb); have n1_ := Aside0.mk (hbox); have n2_ := Aside0.mk ((by rw [hg]; exact (below_size (by repeat (first | (with_reducible first | exact HB.out | apply below_alloc | apply pw_below_drewN | apply below_drew1) | exact HB.out))) : w.heap.size ≤ gb185)); have n3_ := Aside0.mk ((by rw [hg]; exact (below_size (by repeat (first | (with_reducible first | exact HB.out | apply below_alloc | apply pw_below_drewN | apply below_drew1) | exact HB.out))) : w.heap.size ≤ gb185)); clear HB; have HB := n0_; have BK185 := n1_; have GW185 := n2_; have GE185 := n3_; clear n0_ n1_ n2_ n3_; clear hb hbox hg) | ((with_reducible refine gate_dst (N := 3) rfl ?_); refine box_event ?hg (N := 3) ?hd (cs := #[.int .i64 a1_0, .slice A1_1 l1_1.length c1_1]) (t := 48) ?hr ?_; (case hd => rfl); (case hg => rfl); (case hr => first | (go_simp; done) | (go_simp; rfl)); intro gb186 hg w7 hbox hb; have n0_ := Aside0.mk (blk_below (g := gb185) (o := .cells #[.int .i64 a0_0, .slice A0_1 l0_1.length c0_1] 48 (0, 0)) (by (with_reducible repeat (first | refine blk_drewN ?_ _ | refine blk_drew ?_ | refine blk_alloc ?_ _)); exact BK185.out) hb); have n1_ := Aside0.mk (below_step (by repeat (first | (with_reducible first | exact HB.out | apply below_alloc | apply pw_below_drewN | apply below_drew1 | refine below_set ?_ GE185.out) | exact HB.out)) hb); have n2_ := Aside0.mk (hbox); have n3_ := Aside0.mk ((by rw [hg]; exact (below_size (by repeat (first | (with_reducible first | exact HB.out | apply below_alloc | apply pw_below_drewN | apply below_drew1 | refine below_set ?_ GE185.out) | exact HB.out))) : w.heap.size ≤ gb186)); have n4_ := Aside0.mk ((by rw [hg]; exact (below_size (by repeat (first | (with_reducible first | exact HB.out | apply below_alloc | apply pw_below_drewN | apply below_drew1 | refine below_set ?_ GE185.out) | exact HB.out))) : w.heap.size ≤ gb186)); have n5_ := Aside0.mk ((by rw [hg]; exact Nat.ne_of_lt (blk_lt (g := gb185) (o := .cells #[.int .i64 a0_0, .slice A0_1 l0_1.length c0_1] 48 (0, 0)) (by (with_reducible repeat (first | refine blk_drewN ?_ _ | refine blk_drew ?_ | refine blk_alloc ?_ _)); exact BK185.out)) : gb185 ≠ gb186)); have n6_ := Aside0.mk ((by rw [hg]; exact Nat.ne_of_gt (blk_lt (g := gb185) (o := .cells #[.int .i64 a0_0, .slice A0_1 l0_1.length c0_1] 48 (0, 0)) (by (with_reducible repeat (first | refine blk_drewN ?_ _ | refine blk_drew ?_ | refine blk_alloc ?_ _)); exact BK185.out)) : gb186 ≠ gb185)); clear BK185; clear HB; have BK185 := n0_; have HB := n1_; have BK186 := n2_; have GW186 := n3_; have GE186 := n4_; have NB185_186 := n5_; have NB186_185 := n6_; clear n0_ n1_ n2_ n3_ n4_ n5_ n6_; clear hb hbox hg; have hnb8 := NB185_186.out; have hnc8 := NB186_185.out; have hcz9_0 : w7.cell? ⟨gb185, 0, none⟩ = some (.int .i64 a0_0) := (blk_cell BK185.out 0).trans rfl; have hcz9_1 : w7.cell? ⟨gb185, 1, none⟩ = some (.slice A0_1 l0_1.length c0_1) := (blk_cell BK185.out 1).trans rfl; have hfz9_0 := blk_frozen BK185.out 0; have hfz9_1 := blk_frozen BK185.out 1; have hcz10_0 : w7.cell? ⟨gb186, 0, none⟩ = some (.int .i64 a1_0) := (blk_cell BK186.out 0).trans rfl; have hcz10_1 : w7.cell? ⟨gb186, 1, none⟩ = some (.slice A1_1 l1_1.length c1_1) := (blk_cell BK186.out 1).trans rfl; have hfz10_0 := blk_frozen BK186.out 0; have hfz10_1 := blk_frozen BK186.out 1) | ((with_reducible refine gate_callee (f := 22) rfl ?_); refine goesL_ (some 14) rfl rfl Try.func22 (by kernel_rfl) rfl #[.slice A0_1 l0_1.length c0_1, .slice A1_1 l1_1.length c1_1] rfl (by (try simp only [List.map_toArray, List.map_cons, List.map_nil]); first | done | rfl | (simp only [List.length_drop, List.length_take]; rfl)) ?_; (with_reducible refine (laws_eqValS.calls k _ _ l0_1 _ _ l1_1 true _ ?side1 ?side2 ?side3 ?side4 A4.out).mono ?_); (case side1 => repeat (first | exact (Kd.C_below HR0_1.out HB.out) | (with_reducible refine Kd.C_alloc ?_ _) | (with_reducible refine Kd.C_drewN ?_ _) | (with_reducible refine Kd.C_drew ?_))); (case side2 => exact HC0_1.out); (case side3 => repeat (first | exact (Kd.C_below HR1_1.out HB.out) | (with_reducible refine Kd.C_alloc ?_ _) | (with_reducible refine Kd.C_drewN ?_ _) | (with_reducible refine Kd.C_drew ?_))); (case side4 => exact HC1_1.out); rintro e w11 ⟨rfl, hb⟩; refine ⟨_, rfl, ?_⟩; have n0_ := Aside0.mk (blk_below (g := gb185) (o := .cells #[.int .i64 a0_0, .slice A0_1 l0_1.length c0_1] 48 (0, 0)) (by (with_reducible repeat (first | refine blk_drewN ?_ _ | refine blk_drew ?_ | refine blk_alloc ?_ _)); exact BK185.out) hb); have n1_ := Aside0.mk (blk_below (g := gb186) (o := .cells #[.int .i64 a1_0, .slice A1_1 l1_1.length c1_1] 48 (0, 0)) (by (with_reducible repeat (first | refine blk_drewN ?_ _ | refine blk_drew ?_ | refine blk_alloc ?_ _)); exact BK186.out) hb); have n2_ := Aside0.mk (below_step (by repeat (first | (with_reducible first | exact HB.out | apply below_alloc | apply pw_below_drewN | apply below_drew1 | refine below_set ?_ GE185.out | refine below_set ?_ GE186.out) | exact HB.out)) hb); clear BK185; clear BK186; clear HB; have BK185 := n0_; have BK186 := n1_; have HB := n2_; clear n0_ n1_ n2_; (try clear hb); (try clear hb2); (try clear hk); (try clear hi)))
      go_ret
      exact ⟨by first | rfl | (simp [errW_none, errW_some] <;> rfl) | (simp [*, errW_none, errW_some] <;> rfl), by repeat (first | (with_reducible first | exact HB.out | apply below_alloc | apply pw_below_drewN | apply below_drew1 | refine below_set ?_ GE185.out | refine below_set ?_ GE186.out) | exact HB.out)⟩
    · replace c5 := Bool.eq_false_iff.mpr c5
      subst c5
      have H1 : (some false) = some r := by rw [if_neg (show ¬ (false = true) by decide)] at H; exact H
      clear H
      have H := H1
      clear H1
      obtain rfl := Option.some.inj H
      simp only [Option.some.injEq, Prod.mk.injEq] at H
      obtain ⟨rfl⟩ := H
      go_enter Try.func40, Try.ntmps40
      go_wp2_with (first | ((with_reducible refine gate_dst (N := 2) rfl ?_); refine box_event ?hg (N := 2) ?hd (cs := #[.int .i64 a0_0, .slice A0_1 l0_1.length c0_1]) (t := 48) ?hr ?_; (case hd => rfl); (case hg => rfl); (case hr => first | (go_simp; done) | (go_simp; rfl)); intro gb185 hg w12 hbox hb; have n0_ := Aside0.mk (below_step (by repeat (first | (with_reducible first | exact HB.out | apply below_alloc | apply pw_below_drewN | apply below_drew1) | exact HB.out)) hb); have n1_ := Aside0.mk (hbox); have n2_ := Aside0.mk ((by rw [hg]; exact (below_size (by repeat (first | (with_reducible first | exact HB.out | apply below_alloc | apply pw_below_drewN | apply below_drew1) | exact HB.out))) : w.heap.size ≤ gb185)); have n3_ := Aside0.mk ((by rw [hg]; exact (below_size (by repeat (first | (with_reducible first | exact HB.out | apply below_alloc | apply pw_below_drewN | apply below_drew1) | exact HB.out))) : w.heap.size ≤ gb185)); clear HB; have HB := n0_; have BK185 := n1_; have GW185 := n2_; have GE185 := n3_; clear n0_ n1_ n2_ n3_; clear hb hbox hg) | ((with_reducible refine gate_dst (N := 3) rfl ?_); refine box_event ?hg (N := 3) ?hd (cs := #[.int .i64 a1_0, .slice A1_1 l1_1.length c1_1]) (t := 48) ?hr ?_; (case hd => rfl); (case hg => rfl); (case hr => first | (go_simp; done) | (go_simp; rfl)); intro gb186 hg w13 hbox hb; have n0_ := Aside0.mk (blk_below (g := gb185) (o := .cells #[.int .i64 a0_0, .slice A0_1 l0_1.length c0_1] 48 (0, 0)) (by (with_reducible repeat (first | refine blk_drewN ?_ _ | refine blk_drew ?_ | refine blk_alloc ?_ _)); exact BK185.out) hb); have n1_ := Aside0.mk (below_step (by repeat (first | (with_reducible first | exact HB.out | apply below_alloc | apply pw_below_drewN | apply below_drew1 | refine below_set ?_ GE185.out) | exact HB.out)) hb); have n2_ := Aside0.mk (hbox); have n3_ := Aside0.mk ((by rw [hg]; exact (below_size (by repeat (first | (with_reducible first | exact HB.out | apply below_alloc | apply pw_below_drewN | apply below_drew1 | refine below_set ?_ GE185.out) | exact HB.out))) : w.heap.size ≤ gb186)); have n4_ := Aside0.mk ((by rw [hg]; exact (below_size (by repeat (first | (with_reducible first | exact HB.out | apply below_alloc | apply pw_below_drewN | apply below_drew1 | refine below_set ?_ GE185.out) | exact HB.out))) : w.heap.size ≤ gb186)); have n5_ := Aside0.mk ((by rw [hg]; exact Nat.ne_of_lt (blk_lt (g := gb185) (o := .cells #[.int .i64 a0_0, .slice A0_1 l0_1.length c0_1] 48 (0, 0)) (by (with_reducible repeat (first | refine blk_drewN ?_ _ | refine blk_drew ?_ | refine blk_alloc ?_ _)); exact BK185.out)) : gb185 ≠ gb186)); have n6_ := Aside0.mk ((by rw [hg]; exact Nat.ne_of_gt (blk_lt (g := gb185) (o := .cells #[.int .i64 a0_0, .slice A0_1 l0_1.length c0_1] 48 (0, 0)) (by (with_reducible repeat (first | refine blk_drewN ?_ _ | refine blk_drew ?_ | refine blk_alloc ?_ _)); exact BK185.out)) : gb186 ≠ gb185)); clear BK185; clear HB; have BK185 := n0_; have HB := n1_; have BK186 := n2_; have GW186 := n3_; have GE186 := n4_; have NB185_186 := n5_; have NB186_185 := n6_; clear n0_ n1_ n2_ n3_ n4_ n5_ n6_; clear hb hbox hg; have hnb14 := NB185_186.out; have hnc14 := NB186_185.out; have hcz15_0 : w13.cell? ⟨gb185, 0, none⟩ = some (.int .i64 a0_0) := (blk_cell BK185.out 0).trans rfl; have hcz15_1 : w13.cell? ⟨gb185, 1, none⟩ = some (.slice A0_1 l0_1.length c0_1) := (blk_cell BK185.out 1).trans rfl; have hfz15_0 := blk_frozen BK185.out 0; have hfz15_1 := blk_frozen BK185.out 1; have hcz16_0 : w13.cell? ⟨gb186, 0, none⟩ = some (.int .i64 a1_0) := (blk_cell BK186.out 0).trans rfl; have hcz16_1 : w13.cell? ⟨gb186, 1, none⟩ = some (.slice A1_1 l1_1.length c1_1) := (blk_cell BK186.out 1).trans rfl; have hfz16_0 := blk_frozen BK186.out 0; have hfz16_1 := blk_frozen BK186.out 1) | ((with_reducible refine gate_callee (f := 22) rfl ?_); refine goesL_ (some 14) rfl rfl Try.func22 (by kernel_rfl) rfl #[.slice A0_1 l0_1.length c0_1, .slice A1_1 l1_1.length c1_1] rfl (by (try simp only [List.map_toArray, List.map_cons, List.map_nil]); first | done | rfl | (simp only [List.length_drop, List.length_take]; rfl)) ?_; (with_reducible refine (laws_eqValS.calls k _ _ l0_1 _ _ l1_1 false _ ?side1 ?side2 ?side3 ?side4 A4.out).mono ?_); (case side1 => repeat (first | exact (Kd.C_below HR0_1.out HB.out) | (with_reducible refine Kd.C_alloc ?_ _) | (with_reducible refine Kd.C_drewN ?_ _) | (with_reducible refine Kd.C_drew ?_))); (case side2 => exact HC0_1.out); (case side3 => repeat (first | exact (Kd.C_below HR1_1.out HB.out) | (with_reducible refine Kd.C_alloc ?_ _) | (with_reducible refine Kd.C_drewN ?_ _) | (with_reducible refine Kd.C_drew ?_))); (case side4 => exact HC1_1.out); rintro e w17 ⟨rfl, hb⟩; refine ⟨_, rfl, ?_⟩; have n0_ := Aside0.mk (blk_below (g := gb185) (o := .cells #[.int .i64 a0_0, .slice A0_1 l0_1.length c0_1] 48 (0, 0)) (by (with_reducible repeat (first | refine blk_drewN ?_ _ | refine blk_drew ?_ | refine blk_alloc ?_ _)); exact BK185.out) hb); have n1_ := Aside0.mk (blk_below (g := gb186) (o := .cells #[.int .i64 a1_0, .slice A1_1 l1_1.length c1_1] 48 (0, 0)) (by (with_reducible repeat (first | refine blk_drewN ?_ _ | refine blk_drew ?_ | refine blk_alloc ?_ _)); exact BK186.out) hb); have n2_ := Aside0.mk (below_step (by repeat (first | (with_reducible first | exact HB.out | apply below_alloc | apply pw_below_drewN | apply below_drew1 | refine below_set ?_ GE185.out | refine below_set ?_ GE186.out) | exact HB.out)) hb); clear BK185; clear BK186; clear HB; have BK185 := n0_; have BK186 := n1_; have HB := n2_; clear n0_ n1_ n2_; (try clear hb); (try clear hb2); (try clear hk); (try clear hi)))
      go_ret
      exact ⟨by first | rfl | (simp [errW_none, errW_some] <;> rfl) | (simp [*, errW_none, errW_some] <;> rfl), by repeat (first | (with_reducible first | exact HB.out | apply below_alloc | apply pw_below_drewN | apply below_drew1 | refine below_set ?_ GE185.out | refine below_set ?_ GE186.out) | exact HB.out)⟩
  · rw [if_neg c3] at H
    have c3b0 : (a0_0 == a1_0) = false := beq_eq_false_iff_ne.mpr c3
    have c3b1 : (a0_0 != a1_0) = true := bne_iff_ne.mpr c3
    obtain rfl := Option.some.inj H
    simp only [Option.some.injEq, Prod.mk.injEq] at H
    obtain ⟨rfl⟩ := H
    go_enter Try.func40, Try.ntmps40
    go_wp2_with (first | ((with_reducible refine gate_dst (N := 2) rfl ?_); refine box_event ?hg (N := 2) ?hd (cs := #[.int .i64 a0_0, .slice A0_1 l0_1.length c0_1]) (t := 48) ?hr ?_; (case hd => rfl); (case hg => rfl); (case hr => first | (go_simp; done) | (go_simp; rfl)); intro gb185 hg w18 hbox hb; have n0_ := Aside0.mk (below_step (by repeat (first | (with_reducible first | exact HB.out | apply below_alloc | apply pw_below_drewN | apply below_drew1) | exact HB.out)) hb); have n1_ := Aside0.mk (hbox); have n2_ := Aside0.mk ((by rw [hg]; exact (below_size (by repeat (first | (with_reducible first | exact HB.out | apply below_alloc | apply pw_below_drewN | apply below_drew1) | exact HB.out))) : w.heap.size ≤ gb185)); have n3_ := Aside0.mk ((by rw [hg]; exact (below_size (by repeat (first | (with_reducible first | exact HB.out | apply below_alloc | apply pw_below_drewN | apply below_drew1) | exact HB.out))) : w.heap.size ≤ gb185)); clear HB; have HB := n0_; have BK185 := n1_; have GW185 := n2_; have GE185 := n3_; clear n0_ n1_ n2_ n3_; clear hb hbox hg) | ((with_reducible refine gate_dst (N := 3) rfl ?_); refine box_event ?hg (N := 3) ?hd (cs := #[.int .i64 a1_0, .slice A1_1 l1_1.length c1_1]) (t := 48) ?hr ?_; (case hd => rfl); (case hg => rfl); (case hr => first | (go_simp; done) | (go_simp; rfl)); intro gb186 hg w19 hbox hb; have n0_ := Aside0.mk (blk_below (g := gb185) (o := .cells #[.int .i64 a0_0, .slice A0_1 l0_1.length c0_1] 48 (0, 0)) (by (with_reducible repeat (first | refine blk_drewN ?_ _ | refine blk_drew ?_ | refine blk_alloc ?_ _)); exact BK185.out) hb); have n1_ := Aside0.mk (below_step (by repeat (first | (with_reducible first | exact HB.out | apply below_alloc | apply pw_below_drewN | apply below_drew1 | refine below_set ?_ GE185.out) | exact HB.out)) hb); have n2_ := Aside0.mk (hbox); have n3_ := Aside0.mk ((by rw [hg]; exact (below_size (by repeat (first | (with_reducible first | exact HB.out | apply below_alloc | apply pw_below_drewN | apply below_drew1 | refine below_set ?_ GE185.out) | exact HB.out))) : w.heap.size ≤ gb186)); have n4_ := Aside0.mk ((by rw [hg]; exact (below_size (by repeat (first | (with_reducible first | exact HB.out | apply below_alloc | apply pw_below_drewN | apply below_drew1 | refine below_set ?_ GE185.out) | exact HB.out))) : w.heap.size ≤ gb186)); have n5_ := Aside0.mk ((by rw [hg]; exact Nat.ne_of_lt (blk_lt (g := gb185) (o := .cells #[.int .i64 a0_0, .slice A0_1 l0_1.length c0_1] 48 (0, 0)) (by (with_reducible repeat (first | refine blk_drewN ?_ _ | refine blk_drew ?_ | refine blk_alloc ?_ _)); exact BK185.out)) : gb185 ≠ gb186)); have n6_ := Aside0.mk ((by rw [hg]; exact Nat.ne_of_gt (blk_lt (g := gb185) (o := .cells #[.int .i64 a0_0, .slice A0_1 l0_1.length c0_1] 48 (0, 0)) (by (with_reducible repeat (first | refine blk_drewN ?_ _ | refine blk_drew ?_ | refine blk_alloc ?_ _)); exact BK185.out)) : gb186 ≠ gb185)); clear BK185; clear HB; have BK185 := n0_; have HB := n1_; have BK186 := n2_; have GW186 := n3_; have GE186 := n4_; have NB185_186 := n5_; have NB186_185 := n6_; clear n0_ n1_ n2_ n3_ n4_ n5_ n6_; clear hb hbox hg; have hnb20 := NB185_186.out; have hnc20 := NB186_185.out; have hcz21_0 : w19.cell? ⟨gb185, 0, none⟩ = some (.int .i64 a0_0) := (blk_cell BK185.out 0).trans rfl; have hcz21_1 : w19.cell? ⟨gb185, 1, none⟩ = some (.slice A0_1 l0_1.length c0_1) := (blk_cell BK185.out 1).trans rfl; have hfz21_0 := blk_frozen BK185.out 0; have hfz21_1 := blk_frozen BK185.out 1; have hcz22_0 : w19.cell? ⟨gb186, 0, none⟩ = some (.int .i64 a1_0) := (blk_cell BK186.out 0).trans rfl; have hcz22_1 : w19.cell? ⟨gb186, 1, none⟩ = some (.slice A1_1 l1_1.length c1_1) := (blk_cell BK186.out 1).trans rfl; have hfz22_0 := blk_frozen BK186.out 0; have hfz22_1 := blk_frozen BK186.out 1))
    go_ret
    exact ⟨by first | rfl | (simp [errW_none, errW_some] <;> rfl) | (simp [*, errW_none, errW_some] <;> rfl), by repeat (first | (with_reducible first | exact HB.out | apply below_alloc | apply pw_below_drewN | apply below_drew1 | refine below_set ?_ GE185.out | refine below_set ?_ GE186.out) | exact HB.out)⟩
end Go.Proofs.Yteeakklnlcjgbaa.P

end
section

namespace Go.Proofs.Yteeakklnlcjgbaa.P
open Go.RowKit Go.Proofs.YteeakklnlcjgbaaW.PrintWords Go.Proofs.YteeakklnlcjgbaaW.PrintLast Go.Proofs.YteeakklnlcjgbaaW.PrintMore
attribute [local go_sem] max2_int min2_int max_two min_two max_three min_three max_four min_four
set_option linter.unusedVariables false
set_option linter.unusedSimpArgs false
def laws_eqObjS.T6 : Bool × List (List Nat × List Nat) := (true, [([], []), ([], []), ([0, 1], [0, 1]), ([2], [2]), ([], []), ([], []), ([4, 5], [4, 5]), ([6], [6]), ([3, 7], [3, 7]), ([8], [8])])
def laws_eqObjS.B6 : List Nat := [0, 0, 3, 7, 0, 0, 48, 112, 255, 511]
theorem laws_eqObjS.tab6 : rtab .any (opsOf Try.f21 6) = laws_eqObjS.T6 := by kernel_rfl
theorem laws_eqObjS.bits6 : waitsOk laws_eqObjS.T6.2 laws_eqObjS.B6 = true := by kernel_rfl
set_option maxHeartbeats 8000000 in
set_option maxRecDepth 100000 in
theorem laws_eqObjS.calls (k : Nat) (A0 : Option Addr) (c0 : Nat) (l0 : List (S48)) (A1 : Option Addr) (c1 : Nat) (l1 : List (S48)) (r : Bool) (w : World) (hr0 : Kd.C k48 w A0 l0.length l0) (hc0 : l0.length ≤ c0) (hr1 : Kd.C k48 w A1 l1.length l1) (hc1 : l1.length ≤ c1) (h : laws_eqObjS.f k l0 l1 = some r) :
    Calls Try.prog 21 #[.slice A0 l0.length c0, .slice A1 l1.length c1] w fun e w' => e = .returned (.bool r) ∧ Below w.heap.size w w' := by
  have hu48 := Try.underlying48
  have HR0 := Aside0.mk hr0
  have HC0 := Aside0.mk hc0
  clear hr0 hc0
  have HR1 := Aside0.mk hr1
  have HC1 := Aside0.mk hc1
  clear hr1 hc1
  have HB := Aside0.mk (Below.refl w.heap.size w)
  have H : (if (l0.length : Int) = (l1.length : Int) then (laws_eqObjS.l0 k l0 l1 0) else (some false)) = some r := h
  clear h
  by_cases c3 : (l0.length : Int) = (l1.length : Int)
  · rw [if_pos c3] at H
    have c3b0 : ((l0.length : Int) == (l1.length : Int)) = true := beq_iff_eq.mpr c3
    have c3b1 : ((l0.length : Int) != (l1.length : Int)) = false := bne_eq_false_iff_eq.mpr c3
    have c3b2 : (l0.length == l1.length) = true := by first | simpa using c3 | (simp at c3 ⊢; omega)
    clear c3
    have H' := Aside0.mk H
    clear H
    go_enter Try.func21, Try.ntmps21
    go_wp2
    go_loopg [5] k (fun kq v5 w' => ∃ (x5_1 : Int), v5 = .int .i64 x5_1 ∧ Aside0 (laws_eqObjS.l0 kq l0 l1 x5_1 = some r) ∧ Aside0 (kq ≤ k) ∧ Aside0 (Below w.heap.size w w'))
    case atStart => exact ⟨(0), (by first | rfl | (simp; done) | (simp [*]; done)), H', ⟨Nat.le_refl _⟩, ⟨by repeat (first | (with_reducible first | exact HB.out | apply below_alloc | apply pw_below_drewN | apply below_drew1) | exact HB.out)⟩⟩
    case round =>
      clear H'
      try clear c1
      try clear c2
      try clear p2
      try clear c3
      try clear c3b0
      try clear c3b1
      try clear c3b2
      obtain ⟨x5_1, rfl, HA, HK1, HB⟩ := hrel
      cases gk with
      | zero => exact absurd HA.out (by simp [laws_eqObjS.l0])
      | succ k1 =>
        have H := HA.out
        clear HA
        simp only [laws_eqObjS.l0] at H
        by_cases c4 : x5_1 < (l0.length : Int)
        · rw [if_pos c4] at H
          have c4b0 : decide (x5_1 < (l0.length : Int)) = true := decide_eq_true c4
          clear c4
          by_cases c5 : 0 ≤ x5_1
          · rw [if_pos c5] at H
            have c5b0 : decide (0 ≤ x5_1) = true := decide_eq_true c5
            clear c5
            by_cases c6 : x5_1 < (l1.length : Int)
            · rw [if_pos c6] at H
              have c6b0 : decide (x5_1 < (l1.length : Int)) = true := decide_eq_true c6
              clear c6
              replace H := Option.bind_eq_some_iff.mp H
              obtain ⟨t190, A70, H⟩ := H
              replace H : (if t190 = true then (laws_eqObjS.l0 k1 l0 l1 (wrap64 (x5_1 + 1))) else (some false)) = some r := H
              have A7 := Aside0.mk A70
              clear A70
              by_cases c8 : t190 = true
              · subst c8
                have H1 : (laws_eqObjS.l0 k1 l0 l1 (wrap64 (x5_1 + 1))) = some r := by rw [if_pos rfl] at H; exact H
                clear H
                have H := H1
                clear H1
                have H' := Aside0.mk H
                clear H
                try go_wp2
                have n0_ := Aside0.mk (below_drew1 HB.out)
                clear HB
                have HB := n0_
                clear n0_
                have p188 : 0 ≤ (x5_1 : Int) := of_decide_eq_true (by first | (with_reducible assumption) | assumption)
                have q188 : x5_1 < (l0.length : Int) := of_decide_eq_true (by first | (with_reducible assumption) | assumption)
                obtain ⟨ad188, A188_1, c188_1, e188, hx188_0, hx188_1, hl188_1, hi188_1⟩ := at_T48 HR0.out x5_1 p188 q188
                have hw188_1 := hx188_1
                have hw188_0 := hx188_0
                cases e188
                replace hx188_0 := (HB.out.cell (World.block_lt_of_cell? w _ hx188_0)).trans hx188_0
                replace hx188_1 := (HB.out.cell (World.block_lt_of_cell? w _ hx188_1)).trans hx188_1
                have HR188_1 := Aside0.mk hi188_1
                have HC188_1 := Aside0.mk hl188_1
                clear hi188_1 hl188_1
                replace p188 := eq_true p188
                replace q188 := eq_true q188
                have p189 : 0 ≤ (x5_1 : Int) := of_decide_eq_true (by first | (with_reducible assumption) | assumption)
                have q189 : x5_1 < (l1.length : Int) := of_decide_eq_true (by first | (with_reducible assumption) | assumption)
                obtain ⟨ad189, A189_1, c189_1, e189, hx189_0, hx189_1, hl189_1, hi189_1⟩ := at_T48 HR1.out x5_1 p189 q189
                have hw189_1 := hx189_1
                have hw189_0 := hx189_0
                cases e189
                replace hx189_0 := (HB.out.cell (World.block_lt_of_cell? w _ hx189_0)).trans hx189_0
                replace hx189_1 := (HB.out.cell (World.block_lt_of_cell? w _ hx189_1)).trans hx189_1
                have HR189_1 := Aside0.mk hi189_1
                have HC189_1 := Aside0.mk hl189_1
                clear hi189_1 hl189_1
                replace p189 := eq_true p189
                replace q189 := eq_true q189
                refine start_ (n := 10) (S := fun w' => w'.cell? (ad188.add ((x5_1).toNat * 2)) = some (.int .i64 ((rd_T48 l0 x5_1).f0)) ∧ w'.cell? ⟨(ad188.add ((x5_1).toNat * 2)).block, (ad188.add ((x5_1).toNat * 2)).off + 1, none⟩ = some (.slice A188_1 ((rd_T48 l0 x5_1).f1).length c188_1) ∧ w'.cell? (ad189.add ((x5_1).toNat * 2)) = some (.int .i64 ((rd_T48 l1 x5_1).f0)) ∧ w'.cell? ⟨(ad189.add ((x5_1).toNat * 2)).block, (ad189.add ((x5_1).toNat * 2)).off + 1, none⟩ = some (.slice A189_1 ((rd_T48 l1 x5_1).f1).length c189_1)) (ds := []) #[false, false, false, false, false, false, false, false, false, false] (by kernel_rfl) rfl rfl ⟨((HB.out.cell (World.block_lt_of_cell? w _ hw188_0)).trans hw188_0), ((HB.out.cell (World.block_lt_of_cell? w _ hw188_1)).trans hw188_1), ((HB.out.cell (World.block_lt_of_cell? w _ hw189_0)).trans hw189_0), ((HB.out.cell (World.block_lt_of_cell? w _ hw189_1)).trans hw189_1)⟩ (fun hHeld => ?_); refine with_tabW laws_eqObjS.tab6 laws_eqObjS.bits6 (fun HT_ HW_ => ?_)
                generalize wr.drew = w9 at HB HR188_1 HR189_1 hx188_0 hx188_1 hx189_0 hx189_1 hHeld ⊢
                refine pure_ (i := 0) (N := some 17) (v := ?_) (a' := ?_) #[true, false, false, false, false, false, false, false, false, false] rfl rfl (any_of HT_.out (by kernel_rfl)) (fun _ _ _ h => h) (Or.inl ⟨by rfl, ?_⟩) ?_ ?_
                rotate_left
                · intro w'
                  go_simp
                  with_reducible rfl
                rotate_left
                · simp only [Act.put, List.setIfInBounds_toArray, List.set_cons_zero, List.set_cons_succ, i64_w, i32_w]
                  rfl
                refine pure_ (i := 1) (N := some 18) (v := ?_) (a' := ?_) #[true, true, false, false, false, false, false, false, false, false] rfl rfl (any_of HT_.out (by kernel_rfl)) (fun _ _ _ h => h) (Or.inl ⟨by rfl, ?_⟩) ?_ ?_
                rotate_left
                · intro w'
                  go_simp
                  with_reducible rfl
                rotate_left
                · simp only [Act.put, List.setIfInBounds_toArray, List.set_cons_zero, List.set_cons_succ, i64_w, i32_w]
                  rfl
                refine pure_ (i := 2) (N := some 19) (v := ?_) (a' := ?_) #[true, true, true, false, false, false, false, false, false, false] rfl rfl (any_of HT_.out (by kernel_rfl)) (fun _ _ _ h => h) (Or.inl ⟨by rfl, ?_⟩) ?_ ?_
                rotate_left
                · intro w'
                  go_simp
                  with_reducible rfl
                rotate_left
                · simp only [Act.put, List.setIfInBounds_toArray, List.set_cons_zero, List.set_cons_succ, i64_w, i32_w]
                  rfl
                refine pure_ (i := 4) (N := some 21) (v := ?_) (a' := ?_) #[true, true, true, false, true, false, false, false, false, false] rfl rfl (any_of HT_.out (by kernel_rfl)) (fun _ _ _ h => h) (Or.inl ⟨by rfl, ?_⟩) ?_ ?_
                rotate_left
                · intro w'
                  go_simp
                  with_reducible rfl
                rotate_left
                · simp only [Act.put, List.setIfInBounds_toArray, List.set_cons_zero, List.set_cons_succ, i64_w, i32_w]
                  rfl
                refine pure_ (i := 5) (N := some 22) (v := ?_) (a' := ?_) #[true, true, true, false, true, true, false, false, false, false] rfl rfl (any_of HT_.out (by kernel_rfl)) (fun _ _ _ h => h) (Or.inl ⟨by rfl, ?_⟩) ?_ ?_
                rotate_left
                · intro w'
                  go_simp
                  with_reducible rfl
                rotate_left
                · simp only [Act.put, List.setIfInBounds_toArray, List.set_cons_zero, List.set_cons_succ, i64_w, i32_w]
                  rfl
                refine pure_ (i := 6) (N := some 23) (v := ?_) (a' := ?_) #[true, true, true, false, true, true, true, false, false, false] rfl rfl (any_of HT_.out (by kernel_rfl)) (fun _ _ _ h => h) (Or.inl ⟨by rfl, ?_⟩) ?_ ?_
                rotate_left
                · intro w'
                  go_simp
                  with_reducible rfl
                rotate_left
                · simp only [Act.put, List.setIfInBounds_toArray, List.set_cons_zero, List.set_cons_succ, i64_w, i32_w]
                  rfl
                refine take_ (i := 3) (N := some 20) (v := ?_) (a' := ?_) #[true, true, true, true, true, true, true, false, false, false] rfl rfl (take_ofW HT_.out HW_.out (by kernel_rfl)) (fun _ _ _ h => h) (Or.inl ⟨by rfl, ?_⟩) hHeld ?_ ?_
                rotate_left
                · rintro w' ⟨s0, s1, s2, s3⟩
                  go_simp
                  with_reducible rfl
                rotate_left
                · simp only [Act.put, List.setIfInBounds_toArray, List.set_cons_zero, List.set_cons_succ, i64_w, i32_w]
                  rfl
                refine take_ (i := 7) (N := some 24) (v := ?_) (a' := ?_) #[true, true, true, true, true, true, true, true, false, false] rfl rfl (take_ofW HT_.out HW_.out (by kernel_rfl)) (fun _ _ _ h => h) (Or.inl ⟨by rfl, ?_⟩) hHeld ?_ ?_
                rotate_left
                · rintro w' ⟨s0, s1, s2, s3⟩
                  go_simp
                  with_reducible rfl
                rotate_left
                · simp only [Act.put, List.setIfInBounds_toArray, List.set_cons_zero, List.set_cons_succ, i64_w, i32_w]
                  rfl
                refine one_ (i := 8) (N := some 25) #[true, true, true, true, true, true, true, true, true, false] rfl rfl (one_of HT_.out (by kernel_rfl)) (by decide) (fun K hK => ?_)
                refine goes_ Try.func40 (by kernel_rfl) rfl #[.agg #[.int .i64 ((rd_T48 l0 x5_1).f0), .slice A188_1 ((rd_T48 l0 x5_1).f1).length c188_1], .agg #[.int .i64 ((rd_T48 l1 x5_1).f0), .slice A189_1 ((rd_T48 l1 x5_1).f1).length c189_1]] (by rfl) rfl rfl (by (try simp only [List.map_toArray, List.map_cons, List.map_nil]); first | done | rfl | (simp only [List.length_drop, List.length_take]; rfl)) ?_
                with_reducible refine (laws_eqObj.calls k1 ((rd_T48 l0 x5_1).f0) _ _ ((rd_T48 l0 x5_1).f1) ((rd_T48 l1 x5_1).f0) _ _ ((rd_T48 l1 x5_1).f1) true _ ?side1 ?side2 ?side3 ?side4 A7.out).mono ?_
                (case side1 => repeat (first | exact (Kd.C_below HR188_1.out HB.out) | (with_reducible refine Kd.C_alloc ?_ _) | (with_reducible refine Kd.C_drewN ?_ _) | (with_reducible refine Kd.C_drew ?_)))
                (case side2 => exact HC188_1.out)
                (case side3 => repeat (first | exact (Kd.C_below HR189_1.out HB.out) | (with_reducible refine Kd.C_alloc ?_ _) | (with_reducible refine Kd.C_drewN ?_ _) | (with_reducible refine Kd.C_drew ?_)))
                (case side4 => exact HC189_1.out)
                rintro e w10 ⟨rfl, hb⟩
                refine ⟨_, rfl, ?_⟩
                have n0_ := Aside0.mk (below_step (by repeat (first | (with_reducible first | exact HB.out | apply below_alloc | apply pw_below_drewN | apply below_drew1) | exact HB.out)) hb)
                clear HB
                have HB := n0_
                clear n0_
                (try clear hb)
                (try clear hb2)
                (try clear hk)
                (try clear hi)
                refine hK.out _ _ ⟨((HB.out.cell (World.block_lt_of_cell? w _ hw188_0)).trans hw188_0), ((HB.out.cell (World.block_lt_of_cell? w _ hw188_1)).trans hw188_1), ((HB.out.cell (World.block_lt_of_cell? w _ hw189_0)).trans hw189_0), ((HB.out.cell (World.block_lt_of_cell? w _ hw189_1)).trans hw189_1)⟩ (fun hHeld => ?_)
                clear hK K
                refine norm_ (a' := ?_) ?_ ?_
                rotate_left
                · show Act.put _ (some 25) _ = _
                  simp only [Act.put, List.setIfInBounds_toArray, List.set_cons_zero, List.set_cons_succ, i64_w, i32_w]
                  rfl
                refine pure_ (i := 9) (N := some 26) (v := ?_) (a' := ?_) #[true, true, true, true, true, true, true, true, true, true] rfl rfl (any_of HT_.out (by kernel_rfl)) (fun _ _ _ h => h) (Or.inl ⟨by rfl, ?_⟩) ?_ ?_
                rotate_left
                · intro w'
                  go_simp
                  with_reducible rfl
                rotate_left
                · simp only [Act.put, List.setIfInBounds_toArray, List.set_cons_zero, List.set_cons_succ, i64_w, i32_w]
                  rfl
                refine done_ (done_of HT_.out (by kernel_rfl)) ?_
                try go_wp2
                go_roundg k1
                case measure => have := HK1.out; omega
                case rel => exact ⟨(wrap64 (x5_1 + 1)), (by first | rfl | (simp; done) | (simp [*]; done)), H', ⟨by have := HK1.out; omega⟩, ⟨by repeat (first | (with_reducible first | exact HB.out | apply below_alloc | apply pw_below_drewN | apply below_drew1) | exact HB.out)⟩⟩
              · replace c8 := Bool.eq_false_iff.mpr c8
                subst c8
                have H1 : (some false) = some r := by rw [if_neg (show ¬ (false = true) by decide)] at H; exact H
                clear H
                have H := H1
                clear H1
                obtain rfl := Option.some.inj H
                simp only [Option.some.injEq, Prod.mk.injEq] at H
                obtain ⟨rfl⟩ := H
                try go_wp2
                have n0_ := Aside0.mk (below_drew1 HB.out)
                clear HB
                have HB := n0_
                clear n0_
                have p188 : 0 ≤ (x5_1 : Int) := of_decide_eq_true (by first | (with_reducible assumption) | assumption)
                have q188 : x5_1 < (l0.length : Int) := of_decide_eq_true (by first | (with_reducible assumption) | assumption)
                obtain ⟨ad188, A188_1, c188_1, e188, hx188_0, hx188_1, hl188_1, hi188_1⟩ := at_T48 HR0.out x5_1 p188 q188
                have hw188_1 := hx188_1
                have hw188_0 := hx188_0
                cases e188
                replace hx188_0 := (HB.out.cell (World.block_lt_of_cell? w _ hx188_0)).trans hx188_0
                replace hx188_1 := (HB.out.cell (World.block_lt_of_cell? w _ hx188_1)).trans hx188_1
                have HR188_1 := Aside0.mk hi188_1
                have HC188_1 := Aside0.mk hl188_1
                clear hi188_1 hl188_1
                replace p188 := eq_true p188
                replace q188 := eq_true q188
                have p189 : 0 ≤ (x5_1 : Int) := of_decide_eq_true (by first | (with_reducible assumption) | assumption)
                have q189 : x5_1 < (l1.length : Int) := of_decide_eq_true (by first | (with_reducible assumption) | assumption)
                obtain ⟨ad189, A189_1, c189_1, e189, hx189_0, hx189_1, hl189_1, hi189_1⟩ := at_T48 HR1.out x5_1 p189 q189
                have hw189_1 := hx189_1
                have hw189_0 := hx189_0
                cases e189
                replace hx189_0 := (HB.out.cell (World.block_lt_of_cell? w _ hx189_0)).trans hx189_0
                replace hx189_1 := (HB.out.cell (World.block_lt_of_cell? w _ hx189_1)).trans hx189_1
                have HR189_1 := Aside0.mk hi189_1
                have HC189_1 := Aside0.mk hl189_1
                clear hi189_1 hl189_1
                replace p189 := eq_true p189
                replace q189 := eq_true q189
                refine start_ (n := 10) (S := fun w' => w'.cell? (ad188.add ((x5_1).toNat * 2)) = some (.int .i64 ((rd_T48 l0 x5_1).f0)) ∧ w'.cell? ⟨(ad188.add ((x5_1).toNat * 2)).block, (ad188.add ((x5_1).toNat * 2)).off + 1, none⟩ = some (.slice A188_1 ((rd_T48 l0 x5_1).f1).length c188_1) ∧ w'.cell? (ad189.add ((x5_1).toNat * 2)) = some (.int .i64 ((rd_T48 l1 x5_1).f0)) ∧ w'.cell? ⟨(ad189.add ((x5_1).toNat * 2)).block, (ad189.add ((x5_1).toNat * 2)).off + 1, none⟩ = some (.slice A189_1 ((rd_T48 l1 x5_1).f1).length c189_1)) (ds := []) #[false, false, false, false, false, false, false, false, false, false] (by kernel_rfl) rfl rfl ⟨((HB.out.cell (World.block_lt_of_cell? w _ hw188_0)).trans hw188_0), ((HB.out.cell (World.block_lt_of_cell? w _ hw188_1)).trans hw188_1), ((HB.out.cell (World.block_lt_of_cell? w _ hw189_0)).trans hw189_0), ((HB.out.cell (World.block_lt_of_cell? w _ hw189_1)).trans hw189_1)⟩ (fun hHeld => ?_); refine with_tabW laws_eqObjS.tab6 laws_eqObjS.bits6 (fun HT_ HW_ => ?_)
                generalize wr.drew = w11 at HB HR188_1 HR189_1 hx188_0 hx188_1 hx189_0 hx189_1 hHeld ⊢
                refine pure_ (i := 0) (N := some 17) (v := ?_) (a' := ?_) #[true, false, false, false, false, false, false, false, false, false] rfl rfl (any_of HT_.out (by kernel_rfl)) (fun _ _ _ h => h) (Or.inl ⟨by rfl, ?_⟩) ?_ ?_
                rotate_left
                · intro w'
                  go_simp
                  with_reducible rfl
                rotate_left
                · simp only [Act.put, List.setIfInBounds_toArray, List.set_cons_zero, List.set_cons_succ, i64_w, i32_w]
                  rfl
                refine pure_ (i := 1) (N := some 18) (v := ?_) (a' := ?_) #[true, true, false, false, false, false, false, false, false, false] rfl rfl (any_of HT_.out (by kernel_rfl)) (fun _ _ _ h => h) (Or.inl ⟨by rfl, ?_⟩) ?_ ?_
                rotate_left
                · intro w'
                  go_simp
                  with_reducible rfl
                rotate_left
                · simp only [Act.put, List.setIfInBounds_toArray, List.set_cons_zero, List.set_cons_succ, i64_w, i32_w]
                  rfl
                refine pure_ (i := 2) (N := some 19) (v := ?_) (a' := ?_) #[true, true, true, false, false, false, false, false, false, false] rfl rfl (any_of HT_.out (by kernel_rfl)) (fun _ _ _ h => h) (Or.inl ⟨by rfl, ?_⟩) ?_ ?_
                rotate_left
                · intro w'
                  go_simp
                  with_reducible rfl
                rotate_left
                · simp only [Act.put, List.setIfInBounds_toArray, List.set_cons_zero, List.set_cons_succ, i64_w, i32_w]
                  rfl
                refine pure_ (i := 4) (N := some 21) (v := ?_) (a' := ?_) #[true, true, true, false, true, false, false, false, false, false] rfl rfl (any_of HT_.out (by kernel_rfl)) (fun _ _ _ h => h) (Or.inl ⟨by rfl, ?_⟩) ?_ ?_
                rotate_left
                · intro w'
                  go_simp
                  with_reducible rfl
                rotate_left
                · simp only [Act.put, List.setIfInBounds_toArray, List.set_cons_zero, List.set_cons_succ, i64_w, i32_w]
                  rfl
                refine pure_ (i := 5) (N := some 22) (v := ?_) (a' := ?_) #[true, true, true, false, true, true, false, false, false, false] rfl rfl (any_of HT_.out (by kernel_rfl)) (fun _ _ _ h => h) (Or.inl ⟨by rfl, ?_⟩) ?_ ?_
                rotate_left
                · intro w'
                  go_simp
                  with_reducible rfl
                rotate_left
                · simp only [Act.put, List.setIfInBounds_toArray, List.set_cons_zero, List.set_cons_succ, i64_w, i32_w]
                  rfl
                refine pure_ (i := 6) (N := some 23) (v := ?_) (a' := ?_) #[true, true, true, false, true, true, true, false, false, false] rfl rfl (any_of HT_.out (by kernel_rfl)) (fun _ _ _ h => h) (Or.inl ⟨by rfl, ?_⟩) ?_ ?_
                rotate_left
                · intro w'
                  go_simp
                  with_reducible rfl
                rotate_left
                · simp only [Act.put, List.setIfInBounds_toArray, List.set_cons_zero, List.set_cons_succ, i64_w, i32_w]
                  rfl
                refine take_ (i := 3) (N := some 20) (v := ?_) (a' := ?_) #[true, true, true, true, true, true, true, false, false, false] rfl rfl (take_ofW HT_.out HW_.out (by kernel_rfl)) (fun _ _ _ h => h) (Or.inl ⟨by rfl, ?_⟩) hHeld ?_ ?_
                rotate_left
                · rintro w' ⟨s0, s1, s2, s3⟩
                  go_simp
                  with_reducible rfl
                rotate_left
                · simp only [Act.put, List.setIfInBounds_toArray, List.set_cons_zero, List.set_cons_succ, i64_w, i32_w]
                  rfl
                refine take_ (i := 7) (N := some 24) (v := ?_) (a' := ?_) #[true, true, true, true, true, true, true, true, false, false] rfl rfl (take_ofW HT_.out HW_.out (by kernel_rfl)) (fun _ _ _ h => h) (Or.inl ⟨by rfl, ?_⟩) hHeld ?_ ?_
                rotate_left
                · rintro w' ⟨s0, s1, s2, s3⟩
                  go_simp
                  with_reducible rfl
                rotate_left
                · simp only [Act.put, List.setIfInBounds_toArray, List.set_cons_zero, List.set_cons_succ, i64_w, i32_w]
                  rfl
                refine one_ (i := 8) (N := some 25) #[true, true, true, true, true, true, true, true, true, false] rfl rfl (one_of HT_.out (by kernel_rfl)) (by decide) (fun K hK => ?_)
                refine goes_ Try.func40 (by kernel_rfl) rfl #[.agg #[.int .i64 ((rd_T48 l0 x5_1).f0), .slice A188_1 ((rd_T48 l0 x5_1).f1).length c188_1], .agg #[.int .i64 ((rd_T48 l1 x5_1).f0), .slice A189_1 ((rd_T48 l1 x5_1).f1).length c189_1]] (by rfl) rfl rfl (by (try simp only [List.map_toArray, List.map_cons, List.map_nil]); first | done | rfl | (simp only [List.length_drop, List.length_take]; rfl)) ?_
                with_reducible refine (laws_eqObj.calls k1 ((rd_T48 l0 x5_1).f0) _ _ ((rd_T48 l0 x5_1).f1) ((rd_T48 l1 x5_1).f0) _ _ ((rd_T48 l1 x5_1).f1) false _ ?side1 ?side2 ?side3 ?side4 A7.out).mono ?_
                (case side1 => repeat (first | exact (Kd.C_below HR188_1.out HB.out) | (with_reducible refine Kd.C_alloc ?_ _) | (with_reducible refine Kd.C_drewN ?_ _) | (with_reducible refine Kd.C_drew ?_)))
                (case side2 => exact HC188_1.out)
                (case side3 => repeat (first | exact (Kd.C_below HR189_1.out HB.out) | (with_reducible refine Kd.C_alloc ?_ _) | (with_reducible refine Kd.C_drewN ?_ _) | (with_reducible refine Kd.C_drew ?_)))
                (case side4 => exact HC189_1.out)
                rintro e w12 ⟨rfl, hb⟩
                refine ⟨_, rfl, ?_⟩
                have n0_ := Aside0.mk (below_step (by repeat (first | (with_reducible first | exact HB.out | apply below_alloc | apply pw_below_drewN | apply below_drew1) | exact HB.out)) hb)
                clear HB
                have HB := n0_
                clear n0_
                (try clear hb)
                (try clear hb2)
                (try clear hk)
                (try clear hi)
                refine hK.out _ _ ⟨((HB.out.cell (World.block_lt_of_cell? w _ hw188_0)).trans hw188_0), ((HB.out.cell (World.block_lt_of_cell? w _ hw188_1)).trans hw188_1), ((HB.out.cell (World.block_lt_of_cell? w _ hw189_0)).trans hw189_0), ((HB.out.cell (World.block_lt_of_cell? w _ hw189_1)).trans hw189_1)⟩ (fun hHeld => ?_)
                clear hK K
                refine norm_ (a' := ?_) ?_ ?_
                rotate_left
                · show Act.put _ (some 25) _ = _
                  simp only [Act.put, List.setIfInBounds_toArray, List.set_cons_zero, List.set_cons_succ, i64_w, i32_w]
                  rfl
                refine pure_ (i := 9) (N := some 26) (v := ?_) (a' := ?_) #[true, true, true, true, true, true, true, true, true, true] rfl rfl (any_of HT_.out (by kernel_rfl)) (fun _ _ _ h => h) (Or.inl ⟨by rfl, ?_⟩) ?_ ?_
                rotate_left
                · intro w'
                  go_simp
                  with_reducible rfl
                rotate_left
                · simp only [Act.put, List.setIfInBounds_toArray, List.set_cons_zero, List.set_cons_succ, i64_w, i32_w]
                  rfl
                refine done_ (done_of HT_.out (by kernel_rfl)) ?_
                try go_wp2
                go_ret
                exact ⟨by first | rfl | (simp [errW_none, errW_some] <;> rfl) | (simp [*, errW_none, errW_some] <;> rfl), by repeat (first | (with_reducible first | exact HB.out | apply below_alloc | apply pw_below_drewN | apply below_drew1) | exact HB.out)⟩
            · rw [if_neg c6] at H
              exact absurd H (by simp)
          · rw [if_neg c5] at H
            exact absurd H (by simp)
        · rw [if_neg c4] at H
          have c4b0 : decide (x5_1 < (l0.length : Int)) = false := decide_eq_false c4
          clear c4
          obtain rfl := Option.some.inj H
          simp only [Option.some.injEq, Prod.mk.injEq] at H
          obtain ⟨rfl⟩ := H
          go_wp2
          go_ret
          exact ⟨by first | rfl | (simp [errW_none, errW_some] <;> rfl) | (simp [*, errW_none, errW_some] <;> rfl), by repeat (first | (with_reducible first | exact HB.out | apply below_alloc | apply pw_below_drewN | apply below_drew1) | exact HB.out)⟩
  · rw [if_neg c3] at H
    have c3b0 : ((l0.length : Int) == (l1.length : Int)) = false := beq_eq_false_iff_ne.mpr c3
    have c3b1 : ((l0.length : Int) != (l1.length : Int)) = true := bne_iff_ne.mpr c3
    have c3b2 : (l0.length == l1.length) = false := by first | simpa using c3 | (simp at c3 ⊢; omega)
    obtain rfl := Option.some.inj H
    simp only [Option.some.injEq, Prod.mk.injEq] at H
    obtain ⟨rfl⟩ := H
    go_enter Try.func21, Try.ntmps21
    go_wp2
    go_ret
    exact ⟨by first | rfl | (simp [errW_none, errW_some] <;> rfl) | (simp [*, errW_none, errW_some] <;> rfl), by repeat (first | (with_reducible first | exact HB.out | apply below_alloc | apply pw_below_drewN | apply below_drew1) | exact HB.out)⟩
end Go.Proofs.Yteeakklnlcjgbaa.P

end
section

namespace Go.Proofs.Yteeakklnlcjgbaa.P
open Go.RowKit Go.Proofs.YteeakklnlcjgbaaW.PrintWords Go.Proofs.YteeakklnlcjgbaaW.PrintLast Go.Proofs.YteeakklnlcjgbaaW.PrintMore
attribute [local go_sem] max2_int min2_int max_two min_two max_three min_three max_four min_four
set_option linter.unusedVariables false
set_option linter.unusedSimpArgs false
set_option maxHeartbeats 8000000 in
set_option maxRecDepth 100000 in
theorem laws_heldValS.calls (k : Nat) (A0 : Option Addr) (c0 : Nat) (l0 : List (S46)) (a1 : Int) (r : Int) (w : World) (hr0 : Kd.C k46 w A0 l0.length l0) (hc0 : l0.length ≤ c0) (h : laws_heldValS.f k l0 a1 = some r) :
    Calls Try.prog 28 #[.slice A0 l0.length c0, .int .i64 a1] w fun e w' => e = .returned (.int .i64 r) ∧ Drawn0 w w' := by
  have HR0 := Aside0.mk hr0
  have HC0 := Aside0.mk hc0
  clear hr0 hc0
  have H : (laws_heldValS.l0 k l0 a1 0) = some r := h
  clear h
  have H' := Aside0.mk H
  clear H
  go_enter Try.func28, Try.ntmps28
  go_wp2
  go_loopg [1, 5] k (fun kq v1 v5 w' => ∃ (x1_1 : Int) (x5_1 : Int), v1 = .int .i64 x1_1 ∧ v5 = .int .i64 x5_1 ∧ Aside0 (laws_heldValS.l0 kq l0 x1_1 x5_1 = some r) ∧ Aside0 (kq ≤ k) ∧ Drawn0 w w')
  case atStart => exact ⟨(a1), (0), (by first | rfl | (simp; done) | (simp [*]; done)), (by first | rfl | (simp; done) | (simp [*]; done)), H', ⟨Nat.le_refl _⟩, by repeat (first | exact Drawn0.refl _ | apply Drawn0.step)⟩
  case round =>
    clear H'
    try clear c2
    try clear p2
    obtain ⟨x1_1, x5_1, rfl, rfl, HA, HK1, ⟨m1, rfl⟩⟩ := hrel
    cases gk with
    | zero => exact absurd HA.out (by simp [laws_heldValS.l0])
    | succ k1 =>
      have H := HA.out
      clear HA
      simp only [laws_heldValS.l0] at H
      by_cases c3 : x5_1 < (l0.length : Int)
      · rw [if_pos c3] at H
        have c3b0 : decide (x5_1 < (l0.length : Int)) = true := decide_eq_true c3
        clear c3
        by_cases c4 : 0 ≤ x5_1
        · rw [if_pos c4] at H
          have c4b0 : decide (0 ≤ x5_1) = true := decide_eq_true c4
          clear c4
          by_cases c5 : (((rd_T46 l0 x5_1).f0) != ((Int.tmod x1_1 3) == 0)) = true
          · rw [if_pos c5] at H
            have c5b0 : (((rd_T46 l0 x5_1).f0) != ((Int.tmod x1_1 3) == 0)) = true := c5
            (try (have c5b1 : decide (((rd_T46 l0 x5_1).f0) = ((Int.tmod x1_1 3) == 0)) = false := by simpa using c5))
            (try (have c5b2 : (((rd_T46 l0 x5_1).f0) == ((Int.tmod x1_1 3) == 0)) = false := by simpa using c5))
            (try (have c5b3 : ¬ (((rd_T46 l0 x5_1).f0) = ((Int.tmod x1_1 3) == 0)) := by simpa using c5))
            clear c5
            obtain rfl := Option.some.inj H
            simp only [Option.some.injEq, Prod.mk.injEq] at H
            obtain ⟨rfl⟩ := H
            have p256 : 0 ≤ (x5_1 : Int) := of_decide_eq_true (by first | (with_reducible assumption) | assumption)
            have q256 : x5_1 < (l0.length : Int) := of_decide_eq_true (by first | (with_reducible assumption) | assumption)
            obtain ⟨ad256, e256, hx256_0, hx256_1⟩ := at_T46 HR0.out x5_1 p256 q256
            cases e256
            replace p256 := eq_true p256
            replace q256 := eq_true q256
            go_wp2
            go_ret
            exact ⟨by first | rfl | (simp; done) | (simp [*]; done), by repeat (first | exact Drawn0.refl _ | apply Drawn0.step)⟩
          · rw [if_neg c5] at H
            have c5b0 : (((rd_T46 l0 x5_1).f0) != ((Int.tmod x1_1 3) == 0)) = false := by simpa using c5
            (try (have c5b1 : decide (((rd_T46 l0 x5_1).f0) = ((Int.tmod x1_1 3) == 0)) = true := by simpa using c5))
            (try (have c5b2 : (((rd_T46 l0 x5_1).f0) == ((Int.tmod x1_1 3) == 0)) = true := by simpa using c5))
            clear c5
            by_cases c6 : ((rd_T46 l0 x5_1).f1) = (wrap64 (x1_1 + 1))
            · rw [if_pos c6] at H
              have c6b0 : (((rd_T46 l0 x5_1).f1) == (wrap64 (x1_1 + 1))) = true := beq_iff_eq.mpr c6
              have c6b1 : (((rd_T46 l0 x5_1).f1) != (wrap64 (x1_1 + 1))) = false := bne_eq_false_iff_eq.mpr c6
              clear c6
              have H' := Aside0.mk H
              clear H
              have p256 : 0 ≤ (x5_1 : Int) := of_decide_eq_true (by first | (with_reducible assumption) | assumption)
              have q256 : x5_1 < (l0.length : Int) := of_decide_eq_true (by first | (with_reducible assumption) | assumption)
              obtain ⟨ad256, e256, hx256_0, hx256_1⟩ := at_T46 HR0.out x5_1 p256 q256
              cases e256
              replace p256 := eq_true p256
              replace q256 := eq_true q256
              have p257 : 0 ≤ (x5_1 : Int) := of_decide_eq_true (by first | (with_reducible assumption) | assumption)
              have q257 : x5_1 < (l0.length : Int) := of_decide_eq_true (by first | (with_reducible assumption) | assumption)
              obtain ⟨ad257, e257, hx257_0, hx257_1⟩ := at_T46 HR0.out x5_1 p257 q257
              obtain rfl : ad256 = ad257 := (by injection e257)
              replace p257 := eq_true p257
              replace q257 := eq_true q257
              go_wp2
              go_roundg k1
              case measure => have := HK1.out; omega
              case rel => exact ⟨(wrap64 ((wrap64 (x1_1 + 1)) + 1)), (wrap64 (x5_1 + 1)), (by first | rfl | (simp; done) | (simp [*]; done)), (by first | rfl | (simp; done) | (simp [*]; done)), H', ⟨by have := HK1.out; omega⟩, by repeat (first | exact Drawn0.refl _ | apply Drawn0.step)⟩
            · rw [if_neg c6] at H
              have c6b0 : (((rd_T46 l0 x5_1).f1) == (wrap64 (x1_1 + 1))) = false := beq_eq_false_iff_ne.mpr c6
              have c6b1 : (((rd_T46 l0 x5_1).f1) != (wrap64 (x1_1 + 1))) = true := bne_iff_ne.mpr c6
              obtain rfl := Option.some.inj H
              simp only [Option.some.injEq, Prod.mk.injEq] at H
              obtain ⟨rfl⟩ := H
              have p256 : 0 ≤ (x5_1 : Int) := of_decide_eq_true (by first | (with_reducible assumption) | assumption)
              have q256 : x5_1 < (l0.length : Int) := of_decide_eq_true (by first | (with_reducible assumption) | assumption)
              obtain ⟨ad256, e256, hx256_0, hx256_1⟩ := at_T46 HR0.out x5_1 p256 q256
              cases e256
              replace p256 := eq_true p256
              replace q256 := eq_true q256
              have p257 : 0 ≤ (x5_1 : Int) := of_decide_eq_true (by first | (with_reducible assumption) | assumption)
              have q257 : x5_1 < (l0.length : Int) := of_decide_eq_true (by first | (with_reducible assumption) | assumption)
              obtain ⟨ad257, e257, hx257_0, hx257_1⟩ := at_T46 HR0.out x5_1 p257 q257
              obtain rfl : ad256 = ad257 := (by injection e257)
              replace p257 := eq_true p257
              replace q257 := eq_true q257
              go_wp2
              go_ret
              exact ⟨by first | rfl | (simp; done) | (simp [*]; done), by repeat (first | exact Drawn0.refl _ | apply Drawn0.step)⟩
        · rw [if_neg c4] at H
          exact absurd H (by simp)
      · rw [if_neg c3] at H
        have c3b0 : decide (x5_1 < (l0.length : Int)) = false := decide_eq_false c3
        clear c3
        obtain rfl := Option.some.inj H
        simp only [Option.some.injEq, Prod.mk.injEq] at H
        obtain ⟨rfl⟩ := H
        go_wp2
        go_ret
        exact ⟨by first | rfl | (simp; done) | (simp [*]; done), by repeat (first | exact Drawn0.refl _ | apply Drawn0.step)⟩
end Go.Proofs.Yteeakklnlcjgbaa.P

end
section

namespace Go.Proofs.Yteeakklnlcjgbaa.P
open Go.RowKit Go.Proofs.YteeakklnlcjgbaaW.PrintWords Go.Proofs.YteeakklnlcjgbaaW.PrintLast Go.Proofs.YteeakklnlcjgbaaW.PrintMore
attribute [local go_sem] max2_int min2_int max_two min_two max_three min_three max_four min_four
set_option linter.unusedVariables false
set_option linter.unusedSimpArgs false
set_option maxHeartbeats 8000000 in
set_option maxRecDepth 100000 in
theorem laws_heldObjS.calls (k : Nat) (A0 : Option Addr) (c0 : Nat) (l0 : List (S48)) (a1 : Int) (r : Int) (w : World) (hr0 : Kd.C k48 w A0 l0.length l0) (hc0 : l0.length ≤ c0) (h : laws_heldObjS.f k l0 a1 = some r) :
    Calls Try.prog 27 #[.slice A0 l0.length c0, .int .i64 a1] w fun e w' => e = .returned (.int .i64 r) ∧ Drawn0 w w' := by
  have HR0 := Aside0.mk hr0
  have HC0 := Aside0.mk hc0
  clear hr0 hc0
  have H : (laws_heldObjS.l0 k l0 a1 0) = some r := h
  clear h
  have H' := Aside0.mk H
  clear H
  go_enter Try.func27, Try.ntmps27
  go_wp2
  go_loopg [1, 5] k (fun kq v1 v5 w' => ∃ (x1_1 : Int) (x5_1 : Int), v1 = .int .i64 x1_1 ∧ v5 = .int .i64 x5_1 ∧ Aside0 (laws_heldObjS.l0 kq l0 x1_1 x5_1 = some r) ∧ Aside0 (kq ≤ k) ∧ Drawn0 w w')
  case atStart => exact ⟨(a1), (0), (by first | rfl | (simp; done) | (simp [*]; done)), (by first | rfl | (simp; done) | (simp [*]; done)), H', ⟨Nat.le_refl _⟩, by repeat (first | exact Drawn0.refl _ | apply Drawn0.step)⟩
  case round =>
    clear H'
    try clear c2
    try clear p2
    obtain ⟨x1_1, x5_1, rfl, rfl, HA, HK1, ⟨m1, rfl⟩⟩ := hrel
    cases gk with
    | zero => exact absurd HA.out (by simp [laws_heldObjS.l0])
    | succ k1 =>
      have H := HA.out
      clear HA
      simp only [laws_heldObjS.l0] at H
      by_cases c3 : x5_1 < (l0.length : Int)
      · rw [if_pos c3] at H
        have c3b0 : decide (x5_1 < (l0.length : Int)) = true := decide_eq_true c3
        clear c3
        by_cases c4 : 0 ≤ x5_1
        · rw [if_pos c4] at H
          have c4b0 : decide (0 ≤ x5_1) = true := decide_eq_true c4
          clear c4
          by_cases c5 : ((rd_T48 l0 x5_1).f0) = x1_1
          · rw [if_pos c5] at H
            have c5b0 : (((rd_T48 l0 x5_1).f0) == x1_1) = true := beq_iff_eq.mpr c5
            have c5b1 : (((rd_T48 l0 x5_1).f0) != x1_1) = false := bne_eq_false_iff_eq.mpr c5
            clear c5
            replace H := Option.bind_eq_some_iff.mp H
            obtain ⟨t260, A60, H⟩ := H
            replace H : (if t260 < 0 then (some (-1)) else (laws_heldObjS.l0 k1 l0 t260 (wrap64 (x5_1 + 1)))) = some r := H
            have A6 := Aside0.mk A60
            clear A60
            by_cases c7 : t260 < 0
            · rw [if_pos c7] at H
              have c7b0 : decide (t260 < 0) = true := decide_eq_true c7
              clear c7
              obtain rfl := Option.some.inj H
              simp only [Option.some.injEq, Prod.mk.injEq] at H
              obtain ⟨rfl⟩ := H
              have p258 : 0 ≤ (x5_1 : Int) := of_decide_eq_true (by first | (with_reducible assumption) | assumption)
              have q258 : x5_1 < (l0.length : Int) := of_decide_eq_true (by first | (with_reducible assumption) | assumption)
              obtain ⟨ad258, A258_1, c258_1, e258, hx258_0, hx258_1, hl258_1, hi258_1⟩ := at_T48 HR0.out x5_1 p258 q258
              cases e258
              have HR258_1 := Aside0.mk hi258_1
              have HC258_1 := Aside0.mk hl258_1
              clear hi258_1 hl258_1
              replace p258 := eq_true p258
              replace q258 := eq_true q258
              have p259 : 0 ≤ (x5_1 : Int) := of_decide_eq_true (by first | (with_reducible assumption) | assumption)
              have q259 : x5_1 < (l0.length : Int) := of_decide_eq_true (by first | (with_reducible assumption) | assumption)
              obtain ⟨ad259, A259_1, c259_1, e259, hx259_0, hx259_1, hl259_1, hi259_1⟩ := at_T48 HR0.out x5_1 p259 q259
              obtain rfl : ad258 = ad259 := (by injection e259)
              have HR259_1 := Aside0.mk hi259_1
              have HC259_1 := Aside0.mk hl259_1
              clear hi259_1 hl259_1
              replace p259 := eq_true p259
              replace q259 := eq_true q259
              have ea_ := Option.some.inj (hx258_1.symm.trans hx259_1)
              injection ea_ with ea_ en_ ec_
              subst ea_
              subst ec_
              clear en_
              go_wp2_with (first | ((with_reducible refine gate_callee (f := 28) rfl ?_); refine goesL_ (some 27) rfl rfl Try.func28 (by kernel_rfl) rfl #[.slice A258_1 ((rd_T48 l0 x5_1).f1).length c258_1, .int .i64 (wrap64 (x1_1 + 1))] rfl (by (try simp only [List.map_toArray, List.map_cons, List.map_nil]); first | done | rfl | (simp only [List.length_drop, List.length_take]; rfl)) ?_; (with_reducible refine (laws_heldValS.calls k1 _ _ ((rd_T48 l0 x5_1).f1) (wrap64 (x1_1 + 1)) t260 _ ?side1 ?side2 A6.out).mono ?_); (case side1 => repeat (first | exact HR259_1.out | (with_reducible refine Kd.C_alloc ?_ _) | (with_reducible refine Kd.C_drewN ?_ _) | (with_reducible refine Kd.C_drew ?_))); (case side2 => exact HC259_1.out); rintro e w' ⟨rfl, ⟨nd, rfl⟩⟩; refine ⟨_, rfl, ?_⟩))
              go_ret
              exact ⟨by first | rfl | (simp; done) | (simp [*]; done), by repeat (first | exact Drawn0.refl _ | apply Drawn0.step)⟩
            · rw [if_neg c7] at H
              have c7b0 : decide (t260 < 0) = false := decide_eq_false c7
              clear c7
              have H' := Aside0.mk H
              clear H
              have p258 : 0 ≤ (x5_1 : Int) := of_decide_eq_true (by first | (with_reducible assumption) | assumption)
              have q258 : x5_1 < (l0.length : Int) := of_decide_eq_true (by first | (with_reducible assumption) | assumption)
              obtain ⟨ad258, A258_1, c258_1, e258, hx258_0, hx258_1, hl258_1, hi258_1⟩ := at_T48 HR0.out x5_1 p258 q258
              cases e258
              have HR258_1 := Aside0.mk hi258_1
              have HC258_1 := Aside0.mk hl258_1
              clear hi258_1 hl258_1
              replace p258 := eq_true p258
              replace q258 := eq_true q258
              have p259 : 0 ≤ (x5_1 : Int) := of_decide_eq_true (by first | (with_reducible assumption) | assumption)
              have q259 : x5_1 < (l0.length : Int) := of_decide_eq_true (by first | (with_reducible assumption) | assumption)
              obtain ⟨ad259, A259_1, c259_1, e259, hx259_0, hx259_1, hl259_1, hi259_1⟩ := at_T48 HR0.out x5_1 p259 q259
              obtain rfl : ad258 = ad259 := (by injection e259)
              have HR259_1 := Aside0.mk hi259_1
              have HC259_1 := Aside0.mk hl259_1
              clear hi259_1 hl259_1
              replace p259 := eq_true p259
              replace q259 := eq_true q259
              have ea_ := Option.some.inj (hx258_1.symm.trans hx259_1)
              injection ea_ with ea_ en_ ec_
              subst ea_
              subst ec_
              clear en_
              go_wp2_with (first | ((with_reducible refine gate_callee (f := 28) rfl ?_); refine goesL_ (some 27) rfl rfl Try.func28 (by kernel_rfl) rfl #[.slice A258_1 ((rd_T48 l0 x5_1).f1).length c258_1, .int .i64 (wrap64 (x1_1 + 1))] rfl (by (try simp only [List.map_toArray, List.map_cons, List.map_nil]); first | done | rfl | (simp only [List.length_drop, List.length_take]; rfl)) ?_; (with_reducible refine (laws_heldValS.calls k1 _ _ ((rd_T48 l0 x5_1).f1) (wrap64 (x1_1 + 1)) t260 _ ?side1 ?side2 A6.out).mono ?_); (case side1 => repeat (first | exact HR259_1.out | (with_reducible refine Kd.C_alloc ?_ _) | (with_reducible refine Kd.C_drewN ?_ _) | (with_reducible refine Kd.C_drew ?_))); (case side2 => exact HC259_1.out); rintro e w' ⟨rfl, ⟨nd, rfl⟩⟩; refine ⟨_, rfl, ?_⟩))
              go_roundg k1
              case measure => have := HK1.out; omega
              case rel => exact ⟨(t260), (wrap64 (x5_1 + 1)), (by first | rfl | (simp; done) | (simp [*]; done)), (by first | rfl | (simp; done) | (simp [*]; done)), H', ⟨by have := HK1.out; omega⟩, by repeat (first | exact Drawn0.refl _ | apply Drawn0.step)⟩
          · rw [if_neg c5] at H
            have c5b0 : (((rd_T48 l0 x5_1).f0) == x1_1) = false := beq_eq_false_iff_ne.mpr c5
            have c5b1 : (((rd_T48 l0 x5_1).f0) != x1_1) = true := bne_iff_ne.mpr c5
            obtain rfl := Option.some.inj H
            simp only [Option.some.injEq, Prod.mk.injEq] at H
            obtain ⟨rfl⟩ := H
            have p258 : 0 ≤ (x5_1 : Int) := of_decide_eq_true (by first | (with_reducible assumption) | assumption)
            have q258 : x5_1 < (l0.length : Int) := of_decide_eq_true (by first | (with_reducible assumption) | assumption)
            obtain ⟨ad258, A258_1, c258_1, e258, hx258_0, hx258_1, hl258_1, hi258_1⟩ := at_T48 HR0.out x5_1 p258 q258
            cases e258
            have HR258_1 := Aside0.mk hi258_1
            have HC258_1 := Aside0.mk hl258_1
            clear hi258_1 hl258_1
            replace p258 := eq_true p258
            replace q258 := eq_true q258
            go_wp2
            go_ret
            exact ⟨by first | rfl | (simp; done) | (simp [*]; done), by repeat (first | exact Drawn0.refl _ | apply Drawn0.step)⟩
        · rw [if_neg c4] at H
          exact absurd H (by simp)
      · rw [if_neg c3] at H
        have c3b0 : decide (x5_1 < (l0.length : Int)) = false := decide_eq_false c3
        clear c3
        obtain rfl := Option.some.inj H
        simp only [Option.some.injEq, Prod.mk.injEq] at H
        obtain ⟨rfl⟩ := H
        go_wp2
        go_ret
        exact ⟨by first | rfl | (simp; done) | (simp [*]; done), by repeat (first | exact Drawn0.refl _ | apply Drawn0.step)⟩
end Go.Proofs.Yteeakklnlcjgbaa.P

end
section

namespace Go.Proofs.Yteeakklnlcjgbaa.P
open Go Go.RowKit Go.Proofs.YteeakklnlcjgbaaW.PrintWords Go.Proofs.YteeakklnlcjgbaaW.PrintLast Go.Proofs.YteeakklnlcjgbaaW.PrintMore
attribute [local go_sem] max2_int min2_int max_two min_two max_three min_three max_four min_four
set_option linter.unusedVariables false
set_option linter.unusedSimpArgs false
structure OS (B : Nat) (P : Nat → Prop) (v : Value) (xs : List GObj) (W : World) : Prop where
  s : Kd.S k48 48 W B P v xs
  h : ∀ k, P k → k < W.heap.size
structure OR (B : Nat) (P : Nat → Prop) (v : Value) (xs : List GVal) (W : World) : Prop where
  s : Kd.R k46 46 W B P v xs
  h : ∀ k, P k → k < W.heap.size
section
variable {B : Nat} {P Q : Nat → Prop} {v : Value} {xs : List GObj} {ys : List GVal} {W W' : World}
theorem OS.below (h : OS B P v xs W) (hb : Below W.heap.size W W') : OS B P v xs W' := ⟨Kd.S_below h.s hb, fun k hk => Nat.lt_of_lt_of_le (h.h k hk) hb.size⟩
theorem OR.below (h : OR B P v ys W) (hb : Below W.heap.size W W') : OR B P v ys W' := ⟨Kd.R_below h.s hb, fun k hk => Nat.lt_of_lt_of_le (h.h k hk) hb.size⟩
theorem OS.kept (h : OS B P v xs W) (hk : Kept W W' Q) (hd : ∀ k, P k → ¬ Q k) : OS B P v xs W' := ⟨Kd.S_step h.s (fun k hp hl => hk.2 k hl (hd k hp)), fun k hp => Nat.lt_of_lt_of_le (h.h k hp) hk.1⟩
theorem OR.kept (h : OR B P v ys W) (hk : Kept W W' Q) (hd : ∀ k, P k → ¬ Q k) : OR B P v ys W' := ⟨Kd.R_step h.s (fun k hp hl => hk.2 k hl (hd k hp)), fun k hp => Nat.lt_of_lt_of_le (h.h k hp) hk.1⟩
theorem OS.of {ok : Nat → Prop} {b : Nat} (h : Kd.S k48 48 W b ok v xs) (hb : B ≤ b) : ∃ P, OS B P v xs W ∧ ∀ k, P k → b ≤ k ∧ ok k :=
  ⟨fun k => b ≤ k ∧ k < W.heap.size ∧ ok k, ⟨Kd.S_lower (Kd.S_mono (Kd.S_bound h) (fun _ hk => ⟨hk.2.1, hk.2.2.1, hk.1⟩)) hb, fun _ hk => hk.2.1⟩, fun _ hk => ⟨hk.1, hk.2.2⟩⟩
theorem OR.of {ok : Nat → Prop} {b : Nat} (h : Kd.R k46 46 W b ok v ys) (hb : B ≤ b) : ∃ P, OR B P v ys W ∧ ∀ k, P k → b ≤ k ∧ some k = v.ownBlock := by
  have h2 := Kd.R_bound (Kd.R_tight rfl h)
  exact ⟨fun k => b ≤ k ∧ k < W.heap.size ∧ some k = v.ownBlock, ⟨Kd.R_lower (Kd.R_mono h2 (fun _ hk => ⟨hk.2.1, hk.2.2.1, hk.1⟩)) hb, fun _ hk => hk.2.1⟩, fun _ hk => ⟨hk.1, hk.2.2⟩⟩
theorem OS.form (h : Aside0 (OS B P v xs W)) : ∃ A c, v = .slice A xs.length c := Kd.S_slice h.out.s
theorem OR.form (h : Aside0 (OR B P v ys W)) : ∃ A c, v = .slice A ys.length c := Kd.R_slice h.out.s
theorem OS.cells {A : Option Addr} {n c : Nat} (h : Aside0 (OS B P (.slice A n c) xs W)) : Kd.C k48 W A xs.length xs := (Kd.S_reads' h.out.s).2.2
theorem OR.cells {A : Option Addr} {n c : Nat} (h : Aside0 (OR B P (.slice A n c) ys W)) : Kd.C k46 W A ys.length ys := (Kd.R_reads' h.out.s).2.2
theorem OS.room {A : Option Addr} {n c : Nat} (h : Aside0 (OS B P (.slice A n c) xs W)) : xs.length ≤ c := by have h1 := Kd.S_reads' h.out.s; omega
theorem OR.room {A : Option Addr} {n c : Nat} (h : Aside0 (OR B P (.slice A n c) ys W)) : ys.length ≤ c := by have h1 := Kd.R_reads' h.out.s; omega
end
set_option maxHeartbeats 8000000 in
set_option maxRecDepth 100000 in
theorem laws_FnExactHeapGraph.calls (k : Nat) (A0 : Option Addr) (c0 : Nat) (l0 : List S58) (A1 : Option Addr) (c1 : Nat) (l1 : List S62) (r : Bool) (w : World) (hr0 : Kd.C k58 w A0 l0.length l0) (hc0 : l0.length ≤ c0) (hr1 : Kd.C k62 w A1 l1.length l1) (hc1 : l1.length ≤ c1) (h : laws_FnExactHeapGraph.f k l0 l1 = some r) (hr_ : r = true) :
    Calls Try.prog 7 #[.slice A0 l0.length c0, .slice A1 l1.length c1] w fun e w' => e = .returned (.bool r) ∧ Below w.heap.size w w' := by
  subst hr_
  have HR0 := Aside0.mk hr0
  have HC0 := Aside0.mk hc0
  have HR1 := Aside0.mk hr1
  have HC1 := Aside0.mk hc1
  clear hr0 hc0 hr1 hc1
  have HB := Aside0.mk (Below.refl w.heap.size w)
  rw [laws_FnExactHeapGraph.f] at h
  obtain ⟨a, A1_, H⟩ := Option.bind_eq_some_iff.mp h
  have HA1 := Aside0.mk A1_
  clear h A1_
  go_enter Try.func7, Try.ntmps7
  by_cases c1_ : a < 0
  · rw [if_pos c1_] at H
    have c1b := decide_eq_true c1_
    clear c1_ H
    go_wp2_with (first | (go_at_call 15; refine (laws_szObjS.calls k A0 c0 l0 1048576 a _ (Kd.C_below HR0.out HB.out) HC0.out HA1.out).mono ?_; rintro e wn ⟨rfl, hb⟩; have n_HB := Aside0.mk (below_step HB.out hb); clear  HB hb; have HB := n_HB; clear n_HB))
    go_ret
    exact ⟨rfl, HB.out⟩
  · rw [if_neg c1_] at H
    have c1b := decide_eq_false c1_
    clear c1_
    replace H := Option.bind_eq_some_iff.mp H
    obtain ⟨b, A_, H⟩ := H
    have HA2 := Aside0.mk A_
    clear A_
    by_cases c2_ : b < 0
    · rw [if_pos c2_] at H
      have c2b := decide_eq_true c2_
      clear c2_ H
      go_wp2_with (first | (go_at_call 15; refine (laws_szObjS.calls k A0 c0 l0 1048576 a _ (Kd.C_below HR0.out HB.out) HC0.out HA1.out).mono ?_; rintro e wn ⟨rfl, hb⟩; have n_HB := Aside0.mk (below_step HB.out hb); clear  HB hb; have HB := n_HB; clear n_HB) | (go_at_call 16; refine (laws_szValS.calls A1 c1 l1 a b _ (Kd.C_below HR1.out HB.out) HC1.out HA2.out).mono ?_; rintro e wn ⟨rfl, hb_⟩; have hb := hb_.below; clear hb_; have n_HB := Aside0.mk (below_step HB.out hb); clear  HB hb; have HB := n_HB; clear n_HB))
      go_ret
      exact ⟨rfl, HB.out⟩
    · rw [if_neg c2_] at H
      have c2b := decide_eq_false c2_
      clear c2_
      replace H := Option.bind_eq_some_iff.mp H
      obtain ⟨x, A_, H⟩ := H
      have HX := Aside0.mk A_
      clear A_
      replace H := Option.bind_eq_some_iff.mp H
      obtain ⟨y, A_, H⟩ := H
      have HY := Aside0.mk A_
      clear A_
      replace H := Option.bind_eq_some_iff.mp H
      obtain ⟨⟨wa, wb⟩, A_, H⟩ := H
      have HWW := Aside0.mk A_
      clear A_
      replace H := Option.bind_eq_some_iff.mp H
      obtain ⟨⟨ga, gb⟩, A_, H⟩ := H
      have HGG := Aside0.mk A_
      clear A_
      rw [laws_FnExactHeapGraph.g] at H
      by_cases c3_ : laws_eqObjS.f k ga wa = some true ∧ laws_eqValS.f k gb wb = some true ∧ laws_eqObjS.f k x x = some true ∧ laws_eqValS.f k y y = some true
      · rw [if_pos c3_] at H
        have HE1 := Aside0.mk c3_.1
        have HE2 := Aside0.mk c3_.2.1
        have HE3 := Aside0.mk c3_.2.2.1
        have HE4 := Aside0.mk c3_.2.2.2
        clear c3_
        replace H := Option.bind_eq_some_iff.mp H
        obtain ⟨⟨k1, x1⟩, A_, H⟩ := H
        have HK1 := Aside0.mk A_
        clear A_
        replace H := Option.bind_eq_some_iff.mp H
        obtain ⟨⟨k2, y1⟩, A_, H⟩ := H
        have HK2 := Aside0.mk A_
        clear A_
        try dsimp only at H HK2
        by_cases c4_ : k2 < 0
        · rw [if_pos c4_] at H
          exact absurd H (by simp)
        rw [if_neg c4_] at H
        have c4b := decide_eq_false c4_
        clear c4_
        replace H := Option.bind_eq_some_iff.mp H
        obtain ⟨⟨m1, ga1⟩, A_, H⟩ := H
        have HM1 := Aside0.mk A_
        clear A_
        replace H := Option.bind_eq_some_iff.mp H
        obtain ⟨⟨m2, gb1⟩, A_, H⟩ := H
        have HM2 := Aside0.mk A_
        clear A_
        replace H := Option.bind_eq_some_iff.mp H
        obtain ⟨q1, A_, H⟩ := H
        have HQ1 := Aside0.mk A_
        clear A_
        try dsimp only at H HM2 HQ1
        by_cases c5_ : q1 < 0
        · rw [if_pos c5_] at H
          exact absurd H (by simp)
        rw [if_neg c5_] at H
        have c5b := decide_eq_false c5_
        clear c5_
        replace H := Option.bind_eq_some_iff.mp H
        obtain ⟨q2, A_, H⟩ := H
        have HQ2 := Aside0.mk A_
        clear A_
        try dsimp only at H HQ2
        by_cases c6_ : q2 < 0 ∨ q2 ≠ m2
        · rw [if_pos c6_] at H
          exact absurd H (by simp)
        clear H
        obtain ⟨c7_, c8_⟩ : ¬ q2 < 0 ∧ q2 = m2 := by omega
        subst c8_
        have c7b := decide_eq_false c7_
        clear c7_ c6_
        go_upto_region 9 with (first | (go_at_call 15; refine (laws_szObjS.calls k A0 c0 l0 1048576 a _ (Kd.C_below HR0.out HB.out) HC0.out HA1.out).mono ?_; rintro e wn ⟨rfl, hb⟩; have n_HB := Aside0.mk (below_step HB.out hb); clear  HB hb; have HB := n_HB; clear n_HB) | (go_at_call 16; refine (laws_szValS.calls A1 c1 l1 a b _ (Kd.C_below HR1.out HB.out) HC1.out HA2.out).mono ?_; rintro e wn ⟨rfl, hb_⟩; have hb := hb_.below; clear hb_; have n_HB := Aside0.mk (below_step HB.out hb); clear  HB hb; have HB := n_HB; clear n_HB) | (go_at_call 18; refine (laws_toObjS.calls k A0 c0 l0 x _ (Kd.C_below HR0.out HB.out) HC0.out HX.out).mono ?_; rintro e wn ⟨v_, rfl, ho, hb⟩; have hle := HB.out.size; obtain ⟨P_tX, n_tX, l_tX⟩ := OS.of (B := w.heap.size) ho hle; have m_tX := Aside0.mk n_tX; clear hle ho n_tX l_tX; have n_HB := Aside0.mk (below_step HB.out hb); clear  HB hb; have HB := n_HB; clear n_HB; have tX := m_tX; clear m_tX; obtain ⟨A_tX, c_tX, rfl⟩ := OS.form tX) | (go_at_call 19; refine (laws_toValS.calls k A1 c1 l1 y _ (Kd.C_below HR1.out HB.out) HC1.out HY.out).mono ?_; rintro e wn ⟨v_, rfl, ho, hb⟩; have hle := HB.out.size; obtain ⟨P_tY, n_tY, l_tY⟩ := OR.of (B := w.heap.size) ho hle; have D_tX_tY : ∀ k_, P_tX k_ → ¬ P_tY k_ := fun k_ ha_ hx_ => absurd (tX.out.h k_ ha_) (Nat.not_lt.2 (l_tY k_ hx_).1); have m_tY := Aside0.mk n_tY; clear hle ho n_tY l_tY; have n_tX := Aside0.mk (tX.out.below hb); have n_HB := Aside0.mk (below_step HB.out hb); clear tX HB hb; have tX := n_tX; have HB := n_HB; clear n_tX n_HB; have tY := m_tY; clear m_tY; obtain ⟨A_tY, c_tY, rfl⟩ := OR.form tY) | (go_at_call 23; refine (spec_HeapGraph.calls k _ _ x _ _ y wa wb _ (OS.cells tX) (OS.room tX) (OR.cells tY) (OR.room tY) HWW.out).mono ?_; rintro e wn ⟨v_, v2_, rfl, ho, ho1, hb⟩; have hle := HB.out.size; obtain ⟨P_W0, n_W0, l_W0⟩ := OS.of (B := w.heap.size) ho hle; have D_tX_W0 : ∀ k_, P_tX k_ → ¬ P_W0 k_ := fun k_ ha_ hx_ => absurd (tX.out.h k_ ha_) (Nat.not_lt.2 (l_W0 k_ hx_).1); have D_tY_W0 : ∀ k_, P_tY k_ → ¬ P_W0 k_ := fun k_ ha_ hx_ => absurd (tY.out.h k_ ha_) (Nat.not_lt.2 (l_W0 k_ hx_).1); obtain ⟨P_W1, n_W1, l_W1⟩ := OR.of (B := w.heap.size) ho1 hle; have D_tX_W1 : ∀ k_, P_tX k_ → ¬ P_W1 k_ := fun k_ ha_ hx_ => absurd (tX.out.h k_ ha_) (Nat.not_lt.2 (l_W1 k_ hx_).1); have D_tY_W1 : ∀ k_, P_tY k_ → ¬ P_W1 k_ := fun k_ ha_ hx_ => absurd (tY.out.h k_ ha_) (Nat.not_lt.2 (l_W1 k_ hx_).1); have D_W0_W1 : ∀ k_, P_W0 k_ → ¬ P_W1 k_ := fun k_ ha_ hx_ => (l_W0 k_ ha_).2 (l_W1 k_ hx_).2; have m_W0 := Aside0.mk n_W0; have m_W1 := Aside0.mk n_W1; clear hle ho n_W0 l_W0 ho1 n_W1 l_W1; have n_tX := Aside0.mk (tX.out.below hb); have n_tY := Aside0.mk (tY.out.below hb); have n_HB := Aside0.mk (below_step HB.out hb); clear tX tY HB hb; have tX := n_tX; have tY := n_tY; have HB := n_HB; clear n_tX n_tY n_HB; have W0 := m_W0; clear m_W0; obtain ⟨A_W0, c_W0, rfl⟩ := OS.form W0; have W1 := m_W1; clear m_W1; obtain ⟨A_W1, c_W1, rfl⟩ := OR.form W1))
        clear tX tY
        go_upto_region 10 with (first | (go_at_call 18; refine (laws_toObjS.calls k A0 c0 l0 x _ (Kd.C_below HR0.out HB.out) HC0.out HX.out).mono ?_; rintro e wn ⟨v_, rfl, ho, hb⟩; have hle := HB.out.size; obtain ⟨P_X, n_X, l_X⟩ := OS.of (B := w.heap.size) ho hle; have D_W0_X : ∀ k_, P_W0 k_ → ¬ P_X k_ := fun k_ ha_ hx_ => absurd (W0.out.h k_ ha_) (Nat.not_lt.2 (l_X k_ hx_).1); have D_W1_X : ∀ k_, P_W1 k_ → ¬ P_X k_ := fun k_ ha_ hx_ => absurd (W1.out.h k_ ha_) (Nat.not_lt.2 (l_X k_ hx_).1); have m_X := Aside0.mk n_X; clear hle ho n_X l_X; have n_W0 := Aside0.mk (W0.out.below hb); have n_W1 := Aside0.mk (W1.out.below hb); have n_HB := Aside0.mk (below_step HB.out hb); clear W0 W1 HB hb; have W0 := n_W0; have W1 := n_W1; have HB := n_HB; clear n_W0 n_W1 n_HB; have X := m_X; clear m_X; obtain ⟨A_X, c_X, rfl⟩ := OS.form X))
        go_upto_region 11 with (first | (go_at_call 19; refine (laws_toValS.calls k A1 c1 l1 y _ (Kd.C_below HR1.out HB.out) HC1.out HY.out).mono ?_; rintro e wn ⟨v_, rfl, ho, hb⟩; have hle := HB.out.size; obtain ⟨P_Y, n_Y, l_Y⟩ := OR.of (B := w.heap.size) ho hle; have D_W0_Y : ∀ k_, P_W0 k_ → ¬ P_Y k_ := fun k_ ha_ hx_ => absurd (W0.out.h k_ ha_) (Nat.not_lt.2 (l_Y k_ hx_).1); have D_W1_Y : ∀ k_, P_W1 k_ → ¬ P_Y k_ := fun k_ ha_ hx_ => absurd (W1.out.h k_ ha_) (Nat.not_lt.2 (l_Y k_ hx_).1); have D_X_Y : ∀ k_, P_X k_ → ¬ P_Y k_ := fun k_ ha_ hx_ => absurd (X.out.h k_ ha_) (Nat.not_lt.2 (l_Y k_ hx_).1); have m_Y := Aside0.mk n_Y; clear hle ho n_Y l_Y; have n_W0 := Aside0.mk (W0.out.below hb); have n_W1 := Aside0.mk (W1.out.below hb); have n_X := Aside0.mk (X.out.below hb); have n_HB := Aside0.mk (below_step HB.out hb); clear W0 W1 X HB hb; have W0 := n_W0; have W1 := n_W1; have X := n_X; have HB := n_HB; clear n_W0 n_W1 n_X n_HB; have Y := m_Y; clear m_Y; obtain ⟨A_Y, c_Y, rfl⟩ := OR.form Y))
        go_upto_region 12 with (first | (go_at_call 24; refine (impl_HeapGraph.calls k _ _ x _ _ y ga gb _ (OS.cells X) (OS.room X) (OR.cells Y) (OR.room Y) HGG.out).mono ?_; rintro e wn ⟨v_, v2_, rfl, ho, ho1, hb⟩; have hle := HB.out.size; obtain ⟨P_G0, n_G0, l_G0⟩ := OS.of (B := w.heap.size) ho hle; have D_W0_G0 : ∀ k_, P_W0 k_ → ¬ P_G0 k_ := fun k_ ha_ hx_ => absurd (W0.out.h k_ ha_) (Nat.not_lt.2 (l_G0 k_ hx_).1); have D_W1_G0 : ∀ k_, P_W1 k_ → ¬ P_G0 k_ := fun k_ ha_ hx_ => absurd (W1.out.h k_ ha_) (Nat.not_lt.2 (l_G0 k_ hx_).1); have D_X_G0 : ∀ k_, P_X k_ → ¬ P_G0 k_ := fun k_ ha_ hx_ => absurd (X.out.h k_ ha_) (Nat.not_lt.2 (l_G0 k_ hx_).1); have D_Y_G0 : ∀ k_, P_Y k_ → ¬ P_G0 k_ := fun k_ ha_ hx_ => absurd (Y.out.h k_ ha_) (Nat.not_lt.2 (l_G0 k_ hx_).1); obtain ⟨P_G1, n_G1, l_G1⟩ := OR.of (B := w.heap.size) ho1 hle; have D_W0_G1 : ∀ k_, P_W0 k_ → ¬ P_G1 k_ := fun k_ ha_ hx_ => absurd (W0.out.h k_ ha_) (Nat.not_lt.2 (l_G1 k_ hx_).1); have D_W1_G1 : ∀ k_, P_W1 k_ → ¬ P_G1 k_ := fun k_ ha_ hx_ => absurd (W1.out.h k_ ha_) (Nat.not_lt.2 (l_G1 k_ hx_).1); have D_X_G1 : ∀ k_, P_X k_ → ¬ P_G1 k_ := fun k_ ha_ hx_ => absurd (X.out.h k_ ha_) (Nat.not_lt.2 (l_G1 k_ hx_).1); have D_Y_G1 : ∀ k_, P_Y k_ → ¬ P_G1 k_ := fun k_ ha_ hx_ => absurd (Y.out.h k_ ha_) (Nat.not_lt.2 (l_G1 k_ hx_).1); have D_G0_G1 : ∀ k_, P_G0 k_ → ¬ P_G1 k_ := fun k_ ha_ hx_ => (l_G0 k_ ha_).2 (l_G1 k_ hx_).2; have m_G0 := Aside0.mk n_G0; have m_G1 := Aside0.mk n_G1; clear hle ho n_G0 l_G0 ho1 n_G1 l_G1; have n_W0 := Aside0.mk (W0.out.below hb); have n_W1 := Aside0.mk (W1.out.below hb); have n_X := Aside0.mk (X.out.below hb); have n_Y := Aside0.mk (Y.out.below hb); have n_HB := Aside0.mk (below_step HB.out hb); clear W0 W1 X Y HB hb; have W0 := n_W0; have W1 := n_W1; have X := n_X; have Y := n_Y; have HB := n_HB; clear n_W0 n_W1 n_X n_Y n_HB; have G0 := m_G0; clear m_G0; obtain ⟨A_G0, c_G0, rfl⟩ := OS.form G0; have G1 := m_G1; clear m_G1; obtain ⟨A_G1, c_G1, rfl⟩ := OR.form G1))
        go_upto_region 14 with (first | (go_at_call 21; refine (laws_eqObjS.calls k _ _ ga _ _ wa true _ (OS.cells G0) (OS.room G0) (OS.cells W0) (OS.room W0) HE1.out).mono ?_; rintro e wn ⟨rfl, hb⟩; have n_W0 := Aside0.mk (W0.out.below hb); have n_W1 := Aside0.mk (W1.out.below hb); have n_X := Aside0.mk (X.out.below hb); have n_Y := Aside0.mk (Y.out.below hb); have n_G0 := Aside0.mk (G0.out.below hb); have n_G1 := Aside0.mk (G1.out.below hb); have n_HB := Aside0.mk (below_step HB.out hb); clear W0 W1 X Y G0 G1 HB hb; have W0 := n_W0; have W1 := n_W1; have X := n_X; have Y := n_Y; have G0 := n_G0; have G1 := n_G1; have HB := n_HB; clear n_W0 n_W1 n_X n_Y n_G0 n_G1 n_HB) | (go_at_call 22; refine (laws_eqValS.calls k _ _ gb _ _ wb true _ (OR.cells G1) (OR.room G1) (OR.cells W1) (OR.room W1) HE2.out).mono ?_; rintro e wn ⟨rfl, hb⟩; have n_W0 := Aside0.mk (W0.out.below hb); have n_W1 := Aside0.mk (W1.out.below hb); have n_X := Aside0.mk (X.out.below hb); have n_Y := Aside0.mk (Y.out.below hb); have n_G0 := Aside0.mk (G0.out.below hb); have n_G1 := Aside0.mk (G1.out.below hb); have n_HB := Aside0.mk (below_step HB.out hb); clear W0 W1 X Y G0 G1 HB hb; have W0 := n_W0; have W1 := n_W1; have X := n_X; have Y := n_Y; have G0 := n_G0; have G1 := n_G1; have HB := n_HB; clear n_W0 n_W1 n_X n_Y n_G0 n_G1 n_HB))
        go_upto_region 16 with (first | (go_at_call 18; refine (laws_toObjS.calls k A0 c0 l0 x _ (Kd.C_below HR0.out HB.out) HC0.out HX.out).mono ?_; rintro e wn ⟨v_, rfl, ho, hb⟩; have hle := HB.out.size; obtain ⟨P_tX, n_tX, l_tX⟩ := OS.of (B := w.heap.size) ho hle; have D_W0_tX : ∀ k_, P_W0 k_ → ¬ P_tX k_ := fun k_ ha_ hx_ => absurd (W0.out.h k_ ha_) (Nat.not_lt.2 (l_tX k_ hx_).1); have D_W1_tX : ∀ k_, P_W1 k_ → ¬ P_tX k_ := fun k_ ha_ hx_ => absurd (W1.out.h k_ ha_) (Nat.not_lt.2 (l_tX k_ hx_).1); have D_X_tX : ∀ k_, P_X k_ → ¬ P_tX k_ := fun k_ ha_ hx_ => absurd (X.out.h k_ ha_) (Nat.not_lt.2 (l_tX k_ hx_).1); have D_Y_tX : ∀ k_, P_Y k_ → ¬ P_tX k_ := fun k_ ha_ hx_ => absurd (Y.out.h k_ ha_) (Nat.not_lt.2 (l_tX k_ hx_).1); have D_G0_tX : ∀ k_, P_G0 k_ → ¬ P_tX k_ := fun k_ ha_ hx_ => absurd (G0.out.h k_ ha_) (Nat.not_lt.2 (l_tX k_ hx_).1); have D_G1_tX : ∀ k_, P_G1 k_ → ¬ P_tX k_ := fun k_ ha_ hx_ => absurd (G1.out.h k_ ha_) (Nat.not_lt.2 (l_tX k_ hx_).1); have m_tX := Aside0.mk n_tX; clear hle ho n_tX l_tX; have n_W0 := Aside0.mk (W0.out.below hb); have n_W1 := Aside0.mk (W1.out.below hb); have n_X := Aside0.mk (X.out.below hb); have n_Y := Aside0.mk (Y.out.below hb); have n_G0 := Aside0.mk (G0.out.below hb); have n_G1 := Aside0.mk (G1.out.below hb); have n_HB := Aside0.mk (below_step HB.out hb); clear W0 W1 X Y G0 G1 HB hb; have W0 := n_W0; have W1 := n_W1; have X := n_X; have Y := n_Y; have G0 := n_G0; have G1 := n_G1; have HB := n_HB; clear n_W0 n_W1 n_X n_Y n_G0 n_G1 n_HB; have tX := m_tX; clear m_tX; obtain ⟨A_tX, c_tX, rfl⟩ := OS.form tX) | (go_at_call 21; refine (laws_eqObjS.calls k _ _ x _ _ x true _ (OS.cells X) (OS.room X) (OS.cells tX) (OS.room tX) HE3.out).mono ?_; rintro e wn ⟨rfl, hb⟩; have n_W0 := Aside0.mk (W0.out.below hb); have n_W1 := Aside0.mk (W1.out.below hb); have n_X := Aside0.mk (X.out.below hb); have n_Y := Aside0.mk (Y.out.below hb); have n_G0 := Aside0.mk (G0.out.below hb); have n_G1 := Aside0.mk (G1.out.below hb); have n_tX := Aside0.mk (tX.out.below hb); have n_HB := Aside0.mk (below_step HB.out hb); clear W0 W1 X Y G0 G1 tX HB hb; have W0 := n_W0; have W1 := n_W1; have X := n_X; have Y := n_Y; have G0 := n_G0; have G1 := n_G1; have tX := n_tX; have HB := n_HB; clear n_W0 n_W1 n_X n_Y n_G0 n_G1 n_tX n_HB))
        clear tX
        go_upto_region 18 with (first | (go_at_call 19; refine (laws_toValS.calls k A1 c1 l1 y _ (Kd.C_below HR1.out HB.out) HC1.out HY.out).mono ?_; rintro e wn ⟨v_, rfl, ho, hb⟩; have hle := HB.out.size; obtain ⟨P_tY, n_tY, l_tY⟩ := OR.of (B := w.heap.size) ho hle; have D_W0_tY : ∀ k_, P_W0 k_ → ¬ P_tY k_ := fun k_ ha_ hx_ => absurd (W0.out.h k_ ha_) (Nat.not_lt.2 (l_tY k_ hx_).1); have D_W1_tY : ∀ k_, P_W1 k_ → ¬ P_tY k_ := fun k_ ha_ hx_ => absurd (W1.out.h k_ ha_) (Nat.not_lt.2 (l_tY k_ hx_).1); have D_X_tY : ∀ k_, P_X k_ → ¬ P_tY k_ := fun k_ ha_ hx_ => absurd (X.out.h k_ ha_) (Nat.not_lt.2 (l_tY k_ hx_).1); have D_Y_tY : ∀ k_, P_Y k_ → ¬ P_tY k_ := fun k_ ha_ hx_ => absurd (Y.out.h k_ ha_) (Nat.not_lt.2 (l_tY k_ hx_).1); have D_G0_tY : ∀ k_, P_G0 k_ → ¬ P_tY k_ := fun k_ ha_ hx_ => absurd (G0.out.h k_ ha_) (Nat.not_lt.2 (l_tY k_ hx_).1); have D_G1_tY : ∀ k_, P_G1 k_ → ¬ P_tY k_ := fun k_ ha_ hx_ => absurd (G1.out.h k_ ha_) (Nat.not_lt.2 (l_tY k_ hx_).1); have m_tY := Aside0.mk n_tY; clear hle ho n_tY l_tY; have n_W0 := Aside0.mk (W0.out.below hb); have n_W1 := Aside0.mk (W1.out.below hb); have n_X := Aside0.mk (X.out.below hb); have n_Y := Aside0.mk (Y.out.below hb); have n_G0 := Aside0.mk (G0.out.below hb); have n_G1 := Aside0.mk (G1.out.below hb); have n_HB := Aside0.mk (below_step HB.out hb); clear W0 W1 X Y G0 G1 HB hb; have W0 := n_W0; have W1 := n_W1; have X := n_X; have Y := n_Y; have G0 := n_G0; have G1 := n_G1; have HB := n_HB; clear n_W0 n_W1 n_X n_Y n_G0 n_G1 n_HB; have tY := m_tY; clear m_tY; obtain ⟨A_tY, c_tY, rfl⟩ := OR.form tY) | (go_at_call 22; refine (laws_eqValS.calls k _ _ y _ _ y true _ (OR.cells Y) (OR.room Y) (OR.cells tY) (OR.room tY) HE4.out).mono ?_; rintro e wn ⟨rfl, hb⟩; have n_W0 := Aside0.mk (W0.out.below hb); have n_W1 := Aside0.mk (W1.out.below hb); have n_X := Aside0.mk (X.out.below hb); have n_Y := Aside0.mk (Y.out.below hb); have n_G0 := Aside0.mk (G0.out.below hb); have n_G1 := Aside0.mk (G1.out.below hb); have n_tY := Aside0.mk (tY.out.below hb); have n_HB := Aside0.mk (below_step HB.out hb); clear W0 W1 X Y G0 G1 tY HB hb; have W0 := n_W0; have W1 := n_W1; have X := n_X; have Y := n_Y; have G0 := n_G0; have G1 := n_G1; have tY := n_tY; have HB := n_HB; clear n_W0 n_W1 n_X n_Y n_G0 n_G1 n_tY n_HB))
        clear tY
        go_upto_region 20 with (first | (go_at_call 25; refine (laws_markObjS.calls k _ _ x 1 k1 x1 w _ HB.out X.out.s HK1.out).mono ?_; rintro e wn ⟨rfl, hb, hk, ho⟩; have n_X : Aside0 (OS w.heap.size _ _ x1 wn) := ⟨⟨ho, fun k_ hp_ => Nat.lt_of_lt_of_le (X.out.h k_ hp_) hk.1⟩⟩; have n_W0 := Aside0.mk (W0.out.kept hk (D_W0_X)); have n_W1 := Aside0.mk (W1.out.kept hk (D_W1_X)); have n_Y := Aside0.mk (Y.out.kept hk (fun k_ a_ b_ => D_X_Y k_ b_ a_)); have n_G0 := Aside0.mk (G0.out.kept hk (fun k_ a_ b_ => D_X_G0 k_ b_ a_)); have n_G1 := Aside0.mk (G1.out.kept hk (fun k_ a_ b_ => D_X_G1 k_ b_ a_)); have n_HB := Aside0.mk hb; clear X W0 W1 Y G0 G1 HB hb hk ho; have X := n_X; have W0 := n_W0; have W1 := n_W1; have Y := n_Y; have G0 := n_G0; have G1 := n_G1; have HB := n_HB; clear n_X n_W0 n_W1 n_Y n_G0 n_G1 n_HB))
        clear X
        go_upto_region 21 with (first | (go_at_call 26; refine (laws_markValS.calls k _ _ y k1 k2 y1 w _ HB.out Y.out.s HK2.out).mono ?_; rintro e wn ⟨rfl, ho, hb, hk⟩; have n_Y : Aside0 (OR w.heap.size _ _ y1 wn) := ⟨⟨Kd.R_reok rfl ho (fun k_ e_ => Y.out.s.1 k_ e_), fun k_ hp_ => Nat.lt_of_lt_of_le (Y.out.h k_ hp_) hk.1⟩⟩; have n_W0 := Aside0.mk (W0.out.kept hk (D_W0_Y)); have n_W1 := Aside0.mk (W1.out.kept hk (D_W1_Y)); have n_G0 := Aside0.mk (G0.out.kept hk (fun k_ a_ b_ => D_Y_G0 k_ b_ a_)); have n_G1 := Aside0.mk (G1.out.kept hk (fun k_ a_ b_ => D_Y_G1 k_ b_ a_)); have n_HB := Aside0.mk hb; clear Y W0 W1 G0 G1 HB hb hk ho; have Y := n_Y; have W0 := n_W0; have W1 := n_W1; have G0 := n_G0; have G1 := n_G1; have HB := n_HB; clear n_Y n_W0 n_W1 n_G0 n_G1 n_HB))
        clear Y
        go_upto_region 23 with (first | (go_at_call 21; refine (laws_eqObjS.calls k _ _ ga _ _ wa true _ (OS.cells G0) (OS.room G0) (OS.cells W0) (OS.room W0) HE1.out).mono ?_; rintro e wn ⟨rfl, hb⟩; have n_W0 := Aside0.mk (W0.out.below hb); have n_W1 := Aside0.mk (W1.out.below hb); have n_G0 := Aside0.mk (G0.out.below hb); have n_G1 := Aside0.mk (G1.out.below hb); have n_HB := Aside0.mk (below_step HB.out hb); clear W0 W1 G0 G1 HB hb; have W0 := n_W0; have W1 := n_W1; have G0 := n_G0; have G1 := n_G1; have HB := n_HB; clear n_W0 n_W1 n_G0 n_G1 n_HB) | (go_at_call 22; refine (laws_eqValS.calls k _ _ gb _ _ wb true _ (OR.cells G1) (OR.room G1) (OR.cells W1) (OR.room W1) HE2.out).mono ?_; rintro e wn ⟨rfl, hb⟩; have n_W0 := Aside0.mk (W0.out.below hb); have n_W1 := Aside0.mk (W1.out.below hb); have n_G0 := Aside0.mk (G0.out.below hb); have n_G1 := Aside0.mk (G1.out.below hb); have n_HB := Aside0.mk (below_step HB.out hb); clear W0 W1 G0 G1 HB hb; have W0 := n_W0; have W1 := n_W1; have G0 := n_G0; have G1 := n_G1; have HB := n_HB; clear n_W0 n_W1 n_G0 n_G1 n_HB))
        go_upto_region 25 with (first | (go_at_call 25; refine (laws_markObjS.calls k _ _ ga 1 m1 ga1 w _ HB.out G0.out.s HM1.out).mono ?_; rintro e wn ⟨rfl, hb, hk, ho⟩; have n_G0 : Aside0 (OS w.heap.size _ _ ga1 wn) := ⟨⟨ho, fun k_ hp_ => Nat.lt_of_lt_of_le (G0.out.h k_ hp_) hk.1⟩⟩; have n_W0 := Aside0.mk (W0.out.kept hk (D_W0_G0)); have n_W1 := Aside0.mk (W1.out.kept hk (D_W1_G0)); have n_G1 := Aside0.mk (G1.out.kept hk (fun k_ a_ b_ => D_G0_G1 k_ b_ a_)); have n_HB := Aside0.mk hb; clear G0 W0 W1 G1 HB hb hk ho; have G0 := n_G0; have W0 := n_W0; have W1 := n_W1; have G1 := n_G1; have HB := n_HB; clear n_G0 n_W0 n_W1 n_G1 n_HB))
        go_upto_region 26 with (first | (go_at_call 26; refine (laws_markValS.calls k _ _ gb m1 q2 gb1 w _ HB.out G1.out.s HM2.out).mono ?_; rintro e wn ⟨rfl, ho, hb, hk⟩; have n_G1 : Aside0 (OR w.heap.size _ _ gb1 wn) := ⟨⟨Kd.R_reok rfl ho (fun k_ e_ => G1.out.s.1 k_ e_), fun k_ hp_ => Nat.lt_of_lt_of_le (G1.out.h k_ hp_) hk.1⟩⟩; have n_W0 := Aside0.mk (W0.out.kept hk (D_W0_G1)); have n_W1 := Aside0.mk (W1.out.kept hk (D_W1_G1)); have n_G0 := Aside0.mk (G0.out.kept hk (D_G0_G1)); have n_HB := Aside0.mk hb; clear G1 W0 W1 G0 HB hb hk ho; have G1 := n_G1; have W0 := n_W0; have W1 := n_W1; have G0 := n_G0; have HB := n_HB; clear n_G1 n_W0 n_W1 n_G0 n_HB))
        have eG0 : ga.length = ga1.length := (Kd.S_reads' G0.out.s).1
        have eG1 : gb.length = gb1.length := (Kd.R_reads' G1.out.s).1
        rw [eG0] at G0
        rw [eG1] at G1
        rw [eG0, eG1]
        have EG0 := Aside0.mk eG0
        have EG1 := Aside0.mk eG1
        clear eG0 eG1
        go_upto_region 28 with (first | (go_at_call 27; refine (laws_heldObjS.calls k _ _ ga1 1 q1 _ (OS.cells G0) (OS.room G0) HQ1.out).mono ?_; rintro e wn ⟨rfl, hb_⟩; have hb := hb_.below; clear hb_; have n_W0 := Aside0.mk (W0.out.below hb); have n_W1 := Aside0.mk (W1.out.below hb); have n_G0 := Aside0.mk (G0.out.below hb); have n_G1 := Aside0.mk (G1.out.below hb); have n_HB := Aside0.mk (below_step HB.out hb); clear W0 W1 G0 G1 HB hb; have W0 := n_W0; have W1 := n_W1; have G0 := n_G0; have G1 := n_G1; have HB := n_HB; clear n_W0 n_W1 n_G0 n_G1 n_HB))
        go_upto_region 31 with (first | (go_at_call 28; refine (laws_heldValS.calls k _ _ gb1 q1 q2 _ (OR.cells G1) (OR.room G1) HQ2.out).mono ?_; rintro e wn ⟨rfl, hb_⟩; have hb := hb_.below; clear hb_; have n_W0 := Aside0.mk (W0.out.below hb); have n_W1 := Aside0.mk (W1.out.below hb); have n_G0 := Aside0.mk (G0.out.below hb); have n_G1 := Aside0.mk (G1.out.below hb); have n_HB := Aside0.mk (below_step HB.out hb); clear W0 W1 G0 G1 HB hb; have W0 := n_W0; have W1 := n_W1; have G0 := n_G0; have G1 := n_G1; have HB := n_HB; clear n_W0 n_W1 n_G0 n_G1 n_HB))
        go_upto_region 35 with fail
        go_upto_region 36 with (first | (go_at_call 18; refine (laws_toObjS.calls k A0 c0 l0 x _ (Kd.C_below HR0.out HB.out) HC0.out HX.out).mono ?_; rintro e wn ⟨v_, rfl, ho, hb⟩; have hle := HB.out.size; obtain ⟨P_tX, n_tX, l_tX⟩ := OS.of (B := w.heap.size) ho hle; have D_W0_tX : ∀ k_, P_W0 k_ → ¬ P_tX k_ := fun k_ ha_ hx_ => absurd (W0.out.h k_ ha_) (Nat.not_lt.2 (l_tX k_ hx_).1); have D_W1_tX : ∀ k_, P_W1 k_ → ¬ P_tX k_ := fun k_ ha_ hx_ => absurd (W1.out.h k_ ha_) (Nat.not_lt.2 (l_tX k_ hx_).1); have D_G0_tX : ∀ k_, P_G0 k_ → ¬ P_tX k_ := fun k_ ha_ hx_ => absurd (G0.out.h k_ ha_) (Nat.not_lt.2 (l_tX k_ hx_).1); have D_G1_tX : ∀ k_, P_G1 k_ → ¬ P_tX k_ := fun k_ ha_ hx_ => absurd (G1.out.h k_ ha_) (Nat.not_lt.2 (l_tX k_ hx_).1); have m_tX := Aside0.mk n_tX; clear hle ho n_tX l_tX; have n_W0 := Aside0.mk (W0.out.below hb); have n_W1 := Aside0.mk (W1.out.below hb); have n_G0 := Aside0.mk (G0.out.below hb); have n_G1 := Aside0.mk (G1.out.below hb); have n_HB := Aside0.mk (below_step HB.out hb); clear W0 W1 G0 G1 HB hb; have W0 := n_W0; have W1 := n_W1; have G0 := n_G0; have G1 := n_G1; have HB := n_HB; clear n_W0 n_W1 n_G0 n_G1 n_HB; have tX := m_tX; clear m_tX; obtain ⟨A_tX, c_tX, rfl⟩ := OS.form tX) | (go_at_call 19; refine (laws_toValS.calls k A1 c1 l1 y _ (Kd.C_below HR1.out HB.out) HC1.out HY.out).mono ?_; rintro e wn ⟨v_, rfl, ho, hb⟩; have hle := HB.out.size; obtain ⟨P_tY, n_tY, l_tY⟩ := OR.of (B := w.heap.size) ho hle; have D_W0_tY : ∀ k_, P_W0 k_ → ¬ P_tY k_ := fun k_ ha_ hx_ => absurd (W0.out.h k_ ha_) (Nat.not_lt.2 (l_tY k_ hx_).1); have D_W1_tY : ∀ k_, P_W1 k_ → ¬ P_tY k_ := fun k_ ha_ hx_ => absurd (W1.out.h k_ ha_) (Nat.not_lt.2 (l_tY k_ hx_).1); have D_G0_tY : ∀ k_, P_G0 k_ → ¬ P_tY k_ := fun k_ ha_ hx_ => absurd (G0.out.h k_ ha_) (Nat.not_lt.2 (l_tY k_ hx_).1); have D_G1_tY : ∀ k_, P_G1 k_ → ¬ P_tY k_ := fun k_ ha_ hx_ => absurd (G1.out.h k_ ha_) (Nat.not_lt.2 (l_tY k_ hx_).1); have D_tX_tY : ∀ k_, P_tX k_ → ¬ P_tY k_ := fun k_ ha_ hx_ => absurd (tX.out.h k_ ha_) (Nat.not_lt.2 (l_tY k_ hx_).1); have m_tY := Aside0.mk n_tY; clear hle ho n_tY l_tY; have n_W0 := Aside0.mk (W0.out.below hb); have n_W1 := Aside0.mk (W1.out.below hb); have n_G0 := Aside0.mk (G0.out.below hb); have n_G1 := Aside0.mk (G1.out.below hb); have n_tX := Aside0.mk (tX.out.below hb); have n_HB := Aside0.mk (below_step HB.out hb); clear W0 W1 G0 G1 tX HB hb; have W0 := n_W0; have W1 := n_W1; have G0 := n_G0; have G1 := n_G1; have tX := n_tX; have HB := n_HB; clear n_W0 n_W1 n_G0 n_G1 n_tX n_HB; have tY := m_tY; clear m_tY; obtain ⟨A_tY, c_tY, rfl⟩ := OR.form tY) | (go_at_call 24; refine (impl_HeapGraph.calls k _ _ x _ _ y ga gb _ (OS.cells tX) (OS.room tX) (OR.cells tY) (OR.room tY) HGG.out).mono ?_; rintro e wn ⟨v_, v2_, rfl, ho, ho1, hb⟩; have hle := HB.out.size; obtain ⟨P_H0, n_H0, l_H0⟩ := OS.of (B := w.heap.size) ho hle; have D_W0_H0 : ∀ k_, P_W0 k_ → ¬ P_H0 k_ := fun k_ ha_ hx_ => absurd (W0.out.h k_ ha_) (Nat.not_lt.2 (l_H0 k_ hx_).1); have D_W1_H0 : ∀ k_, P_W1 k_ → ¬ P_H0 k_ := fun k_ ha_ hx_ => absurd (W1.out.h k_ ha_) (Nat.not_lt.2 (l_H0 k_ hx_).1); have D_G0_H0 : ∀ k_, P_G0 k_ → ¬ P_H0 k_ := fun k_ ha_ hx_ => absurd (G0.out.h k_ ha_) (Nat.not_lt.2 (l_H0 k_ hx_).1); have D_G1_H0 : ∀ k_, P_G1 k_ → ¬ P_H0 k_ := fun k_ ha_ hx_ => absurd (G1.out.h k_ ha_) (Nat.not_lt.2 (l_H0 k_ hx_).1); have D_tX_H0 : ∀ k_, P_tX k_ → ¬ P_H0 k_ := fun k_ ha_ hx_ => absurd (tX.out.h k_ ha_) (Nat.not_lt.2 (l_H0 k_ hx_).1); have D_tY_H0 : ∀ k_, P_tY k_ → ¬ P_H0 k_ := fun k_ ha_ hx_ => absurd (tY.out.h k_ ha_) (Nat.not_lt.2 (l_H0 k_ hx_).1); obtain ⟨P_H1, n_H1, l_H1⟩ := OR.of (B := w.heap.size) ho1 hle; have D_W0_H1 : ∀ k_, P_W0 k_ → ¬ P_H1 k_ := fun k_ ha_ hx_ => absurd (W0.out.h k_ ha_) (Nat.not_lt.2 (l_H1 k_ hx_).1); have D_W1_H1 : ∀ k_, P_W1 k_ → ¬ P_H1 k_ := fun k_ ha_ hx_ => absurd (W1.out.h k_ ha_) (Nat.not_lt.2 (l_H1 k_ hx_).1); have D_G0_H1 : ∀ k_, P_G0 k_ → ¬ P_H1 k_ := fun k_ ha_ hx_ => absurd (G0.out.h k_ ha_) (Nat.not_lt.2 (l_H1 k_ hx_).1); have D_G1_H1 : ∀ k_, P_G1 k_ → ¬ P_H1 k_ := fun k_ ha_ hx_ => absurd (G1.out.h k_ ha_) (Nat.not_lt.2 (l_H1 k_ hx_).1); have D_tX_H1 : ∀ k_, P_tX k_ → ¬ P_H1 k_ := fun k_ ha_ hx_ => absurd (tX.out.h k_ ha_) (Nat.not_lt.2 (l_H1 k_ hx_).1); have D_tY_H1 : ∀ k_, P_tY k_ → ¬ P_H1 k_ := fun k_ ha_ hx_ => absurd (tY.out.h k_ ha_) (Nat.not_lt.2 (l_H1 k_ hx_).1); have D_H0_H1 : ∀ k_, P_H0 k_ → ¬ P_H1 k_ := fun k_ ha_ hx_ => (l_H0 k_ ha_).2 (l_H1 k_ hx_).2; have m_H0 := Aside0.mk n_H0; have m_H1 := Aside0.mk n_H1; clear hle ho n_H0 l_H0 ho1 n_H1 l_H1; have n_W0 := Aside0.mk (W0.out.below hb); have n_W1 := Aside0.mk (W1.out.below hb); have n_G0 := Aside0.mk (G0.out.below hb); have n_G1 := Aside0.mk (G1.out.below hb); have n_tX := Aside0.mk (tX.out.below hb); have n_tY := Aside0.mk (tY.out.below hb); have n_HB := Aside0.mk (below_step HB.out hb); clear W0 W1 G0 G1 tX tY HB hb; have W0 := n_W0; have W1 := n_W1; have G0 := n_G0; have G1 := n_G1; have tX := n_tX; have tY := n_tY; have HB := n_HB; clear n_W0 n_W1 n_G0 n_G1 n_tX n_tY n_HB; have H0 := m_H0; clear m_H0; obtain ⟨A_H0, c_H0, rfl⟩ := OS.form H0; have H1 := m_H1; clear m_H1; obtain ⟨A_H1, c_H1, rfl⟩ := OR.form H1))
        clear tX tY
        go_upto_region 38 with (first | (go_at_call 21; refine (laws_eqObjS.calls k _ _ ga _ _ wa true _ (OS.cells H0) (OS.room H0) (OS.cells W0) (OS.room W0) HE1.out).mono ?_; rintro e wn ⟨rfl, hb⟩; have n_W0 := Aside0.mk (W0.out.below hb); have n_W1 := Aside0.mk (W1.out.below hb); have n_G0 := Aside0.mk (G0.out.below hb); have n_G1 := Aside0.mk (G1.out.below hb); have n_H0 := Aside0.mk (H0.out.below hb); have n_H1 := Aside0.mk (H1.out.below hb); have n_HB := Aside0.mk (below_step HB.out hb); clear W0 W1 G0 G1 H0 H1 HB hb; have W0 := n_W0; have W1 := n_W1; have G0 := n_G0; have G1 := n_G1; have H0 := n_H0; have H1 := n_H1; have HB := n_HB; clear n_W0 n_W1 n_G0 n_G1 n_H0 n_H1 n_HB) | (go_at_call 22; refine (laws_eqValS.calls k _ _ gb _ _ wb true _ (OR.cells H1) (OR.room H1) (OR.cells W1) (OR.room W1) HE2.out).mono ?_; rintro e wn ⟨rfl, hb⟩; have n_W0 := Aside0.mk (W0.out.below hb); have n_W1 := Aside0.mk (W1.out.below hb); have n_G0 := Aside0.mk (G0.out.below hb); have n_G1 := Aside0.mk (G1.out.below hb); have n_H0 := Aside0.mk (H0.out.below hb); have n_H1 := Aside0.mk (H1.out.below hb); have n_HB := Aside0.mk (below_step HB.out hb); clear W0 W1 G0 G1 H0 H1 HB hb; have W0 := n_W0; have W1 := n_W1; have G0 := n_G0; have G1 := n_G1; have H0 := n_H0; have H1 := n_H1; have HB := n_HB; clear n_W0 n_W1 n_G0 n_G1 n_H0 n_H1 n_HB))
        clear H0 H1 W0 W1
        go_upto_region 40 with (first | (go_at_call 27; refine (laws_heldObjS.calls k _ _ ga1 1 q1 _ (OS.cells G0) (OS.room G0) HQ1.out).mono ?_; rintro e wn ⟨rfl, hb_⟩; have hb := hb_.below; clear hb_; have n_G0 := Aside0.mk (G0.out.below hb); have n_G1 := Aside0.mk (G1.out.below hb); have n_HB := Aside0.mk (below_step HB.out hb); clear G0 G1 HB hb; have G0 := n_G0; have G1 := n_G1; have HB := n_HB; clear n_G0 n_G1 n_HB))
        go_upto_region 43 with (first | (go_at_call 28; refine (laws_heldValS.calls k _ _ gb1 q1 q2 _ (OR.cells G1) (OR.room G1) HQ2.out).mono ?_; rintro e wn ⟨rfl, hb_⟩; have hb := hb_.below; clear hb_; have n_G0 := Aside0.mk (G0.out.below hb); have n_G1 := Aside0.mk (G1.out.below hb); have n_HB := Aside0.mk (below_step HB.out hb); clear G0 G1 HB hb; have G0 := n_G0; have G1 := n_G1; have HB := n_HB; clear n_G0 n_G1 n_HB))
        go_wp2
        go_ret
        exact ⟨rfl, HB.out⟩
      · rw [if_neg c3_] at H
        exact absurd H (by simp)
end Go.Proofs.Yteeakklnlcjgbaa.P

end
