/- A part of the claim FnExactUnitFind: texts of this session and texts that its program printed out of the translation, joined. -/
import Derived.Test.YtedodaifpekahaaCFnExactUnitFind21
import Derived.Test.YtedodaifpekahaaCFnExactUnitFind22
import Derived.Test.YtedodaifpekahaaCFnExactUnitFind0
import Derived.Test.YtedodaifpekahaaCFnExactUnitFind1
import Derived.Test.YtedodaifpekahaaCFnExactUnitFind2
import Derived.Test.YtedodaifpekahaaCFnExactUnitFind3
import Derived.Test.YtedodaifpekahaaCFnExactUnitFind4
import Derived.Test.YtedodaifpekahaaCFnExactUnitFind5
import Derived.Test.YtedodaifpekahaaCFnExactUnitFind6
import Derived.Test.YtedodaifpekahaaCFnExactUnitFind7
import Derived.Test.YtedodaifpekahaaCFnExactUnitFind8
import Derived.Test.YtedodaifpekahaaCFnExactUnitFind9
import Derived.Test.YtedodaifpekahaaCFnExactUnitFind10
import Derived.Test.YtedodaifpekahaaCFnExactUnitFind11
import Derived.Test.YtedodaifpekahaaCFnExactUnitFind12
import Derived.Test.YtedodaifpekahaaCFnExactUnitFind13
import Derived.Test.YtedodaifpekahaaCFnExactUnitFind14
import Derived.Test.YtedodaifpekahaaCFnExactUnitFind15
import Derived.Test.YtedodaifpekahaaCFnExactUnitFind16
import Derived.Test.YtedodaifpekahaaCFnExactUnitFind17
import Derived.Test.YtedodaifpekahaaCFnExactUnitFind18
import Derived.Test.YtedodaifpekahaaCFnExactUnitFind19
import Derived.Test.YtedodaifpekahaaCFnExactUnitFind20
section

namespace Go.Proofs.Ytedodaifpekahaa.P
open Go.RowKit Go.Proofs.YtedodaifpekahaaW.PrintWords Go.Proofs.YtedodaifpekahaaW.PrintLast Go.Proofs.YtedodaifpekahaaW.PrintMore
attribute [local go_sem] max2_int min2_int max_two min_two max_three min_three max_four min_four
set_option linter.unusedVariables false
set_option linter.unusedSimpArgs false
set_option maxHeartbeats 8000000 in
set_option maxRecDepth 100000 in
theorem spec_l3Head.calls (k : Nat) (A0_0 : Option Addr) (c0_0 : Nat) (l0_0 : List (S76)) (A0_1 : Option Addr) (c0_1 : Nat) (l0_1 : List (S46)) (a1_0 : Int) (a1_1 : Int) (A1_2 : Option Addr) (c1_2 : Nat) (l1_2 : List Int) (a1_3 : Int) (a1_4 : Int) (A1_5 : Option Addr) (c1_5 : Nat) (l1_5 : List (S67)) (A1_6 : Option Addr) (c1_6 : Nat) (l1_6 : List (S70)) (A1_7 : Option Addr) (c1_7 : Nat) (l1_7 : List (S73)) (r : Bool) (w : World) (hr0_0 : Kd.C k76 w A0_0 l0_0.length l0_0) (hc0_0 : l0_0.length ≤ c0_0) (hr0_1 : Kd.C k46 w A0_1 l0_1.length l0_1) (hc0_1 : l0_1.length ≤ c0_1) (hr1_2 : Kd.C (Kd.int .i64) w A1_2 l1_2.length l1_2) (hc1_2 : l1_2.length ≤ c1_2) (hr1_5 : Kd.C k67 w A1_5 l1_5.length l1_5) (hc1_5 : l1_5.length ≤ c1_5) (hr1_6 : Kd.C k70 w A1_6 l1_6.length l1_6) (hc1_6 : l1_6.length ≤ c1_6) (hr1_7 : Kd.C k73 w A1_7 l1_7.length l1_7) (hc1_7 : l1_7.length ≤ c1_7) (h : spec_l3Head.f k l0_0 l0_1 a1_0 a1_1 l1_2 a1_3 a1_4 l1_5 l1_6 l1_7 = some r) :
  Calls Try.prog 34 #[.agg #[.slice A0_0 l0_0.length c0_0, .slice A0_1 l0_1.length c0_1], .agg #[.int .i64 a1_0, .int .i64 a1_1, .slice A1_2 l1_2.length c1_2, .int .i64 a1_3, .int .i64 a1_4, .slice A1_5 l1_5.length c1_5, .slice A1_6 l1_6.length c1_6, .slice A1_7 l1_7.length c1_7]] w fun e w' => e = .returned (.bool r) ∧ Below w.heap.size w w' := by
 have hu31 := Try.underlying31
 have hu46 := Try.underlying46
 have HR0_0 := Aside0.mk hr0_0
 have HC0_0 := Aside0.mk hc0_0
 clear hr0_0 hc0_0
 have HR0_1 := Aside0.mk hr0_1
 have HC0_1 := Aside0.mk hc0_1
 clear hr0_1 hc0_1
 have HR1_2 := Aside0.mk hr1_2
 have HC1_2 := Aside0.mk hc1_2
 clear hr1_2 hc1_2
 have HR1_5 := Aside0.mk hr1_5
 have HC1_5 := Aside0.mk hc1_5
 clear hr1_5 hc1_5
 have HR1_6 := Aside0.mk hr1_6
 have HC1_6 := Aside0.mk hc1_6
 clear hr1_6 hc1_6
 have HR1_7 := Aside0.mk hr1_7
 have HC1_7 := Aside0.mk hc1_7
 clear hr1_7 hc1_7
 have HB := Aside0.mk (Below.refl w.heap.size w)
 have H : (if a1_0 ≥ 0 then (spec_l3Head.j0 k 1 l0_0 l0_1 a1_0 a1_1 l1_2 a1_3 a1_4 l1_5 l1_6 l1_7) else (spec_l3Head.j0 k 0 l0_0 l0_1 a1_0 a1_1 l1_2 a1_3 a1_4 l1_5 l1_6 l1_7)) = some r := h
 clear h
 have HC3 := Aside0.mk H
 clear H
 go_enter Try.func34, Try.ntmps34
 go_upto_if 9 with (first | ((with_reducible refine gd 2 rfl ?_); (try (refine gate_guard (by rfl) ?_; dsimp only)); refine bx 2 #[.slice A0_0 l0_0.length c0_0, .slice A0_1 l0_1.length c0_1] 31 ?_; intro gb129 hg w4 hbox hb; have BK129 := Aside0.mk hbox; have GW129 := hz HB hg; have GE129 := hz HB hg; replace HB := hs HB hb; clear hb hbox hg) | ((with_reducible refine gd 3 rfl ?_); (try (refine gate_guard (by rfl) ?_; dsimp only)); refine bx 3 #[.int .i64 a1_0, .int .i64 a1_1, .slice A1_2 l1_2.length c1_2, .int .i64 a1_3, .int .i64 a1_4, .slice A1_5 l1_5.length c1_5, .slice A1_6 l1_6.length c1_6, .slice A1_7 l1_7.length c1_7] 46 ?_; intro gb130 hg w5 hbox hb; have BK130 := Aside0.mk hbox; have GW130 := hz HB hg; have GE130 := hz HB hg; have NB129_130 := nl BK129 hg; have NB130_129 := ng BK129 hg; replace BK129 := kb BK129 hb; replace HB := hs HB hb; clear hb hbox hg; have hnb6 := NB130_129.out; have hnc6 := NB129_130.out; obtain ⟨_,_,_,_,_,_,_,_,_,_,_,_,_,_,_,_⟩ := cf8 BK130))
 repeat (go_quiet (first | ((with_reducible refine gate_dst (N := 2) rfl ?_); (try (refine gate_guard (by rfl) ?_; dsimp only)); refine box_event ?hg (N := 2) ?hd (cs := #[.slice A0_0 l0_0.length c0_0, .slice A0_1 l0_1.length c0_1]) (t := 31) ?hr ?_; (case hd => rfl); (case hg => rfl); (case hr => first | (go_simp; done) | (go_simp; rfl)); intro gb129 hg w4 hbox hb; have n0_ := Aside0.mk (below_step (by repeat (first | (with_reducible first | exact HB.out | apply below_alloc | apply pw_below_drewN | apply below_drew1) | exact HB.out)) hb); have n1_ := Aside0.mk (hbox); have n2_ := Aside0.mk ((by rw [hg]; exact (below_size (by repeat (first | (with_reducible first | exact HB.out | apply below_alloc | apply pw_below_drewN | apply below_drew1) | exact HB.out))) : w.heap.size ≤ gb129)); have n3_ := Aside0.mk ((by rw [hg]; exact (below_size (by repeat (first | (with_reducible first | exact HB.out | apply below_alloc | apply pw_below_drewN | apply below_drew1) | exact HB.out))) : w.heap.size ≤ gb129)); clear HB; have HB := n0_; have BK129 := n1_; have GW129 := n2_; have GE129 := n3_; clear n0_ n1_ n2_ n3_; clear hb hbox hg) | ((with_reducible refine gate_dst (N := 3) rfl ?_); (try (refine gate_guard (by rfl) ?_; dsimp only)); refine box_event ?hg (N := 3) ?hd (cs := #[.int .i64 a1_0, .int .i64 a1_1, .slice A1_2 l1_2.length c1_2, .int .i64 a1_3, .int .i64 a1_4, .slice A1_5 l1_5.length c1_5, .slice A1_6 l1_6.length c1_6, .slice A1_7 l1_7.length c1_7]) (t := 46) ?hr ?_; (case hd => rfl); (case hg => rfl); (case hr => first | (go_simp; done) | (go_simp; rfl)); intro gb130 hg w5 hbox hb; have n0_ := Aside0.mk (blk_below (g := gb129) (o := .cells #[.slice A0_0 l0_0.length c0_0, .slice A0_1 l0_1.length c0_1] 31 (0, 0)) (by (with_reducible repeat (first | refine blk_drewN ?_ _ | refine blk_drew ?_ | refine blk_alloc ?_ _)); exact BK129.out) hb); have n1_ := Aside0.mk (below_step (by repeat (first | (with_reducible first | exact HB.out | apply below_alloc | apply pw_below_drewN | apply below_drew1 | refine below_set ?_ GE129.out) | exact HB.out)) hb); have n2_ := Aside0.mk (hbox); have n3_ := Aside0.mk ((by rw [hg]; exact (below_size (by repeat (first | (with_reducible first | exact HB.out | apply below_alloc | apply pw_below_drewN | apply below_drew1 | refine below_set ?_ GE129.out) | exact HB.out))) : w.heap.size ≤ gb130)); have n4_ := Aside0.mk ((by rw [hg]; exact (below_size (by repeat (first | (with_reducible first | exact HB.out | apply below_alloc | apply pw_below_drewN | apply below_drew1 | refine below_set ?_ GE129.out) | exact HB.out))) : w.heap.size ≤ gb130)); have n5_ := Aside0.mk ((by rw [hg]; exact Nat.ne_of_lt (blk_lt (g := gb129) (o := .cells #[.slice A0_0 l0_0.length c0_0, .slice A0_1 l0_1.length c0_1] 31 (0, 0)) (by (with_reducible repeat (first | refine blk_drewN ?_ _ | refine blk_drew ?_ | refine blk_alloc ?_ _)); exact BK129.out)) : gb129 ≠ gb130)); have n6_ := Aside0.mk ((by rw [hg]; exact Nat.ne_of_gt (blk_lt (g := gb129) (o := .cells #[.slice A0_0 l0_0.length c0_0, .slice A0_1 l0_1.length c0_1] 31 (0, 0)) (by (with_reducible repeat (first | refine blk_drewN ?_ _ | refine blk_drew ?_ | refine blk_alloc ?_ _)); exact BK129.out)) : gb130 ≠ gb129)); clear BK129; clear HB; have BK129 := n0_; have HB := n1_; have BK130 := n2_; have GW130 := n3_; have GE130 := n4_; have NB129_130 := n5_; have NB130_129 := n6_; clear n0_ n1_ n2_ n3_ n4_ n5_ n6_; clear hb hbox hg; have hnb6 := NB130_129.out; have hnc6 := NB129_130.out; have hcz7_0 : w5.cell? ⟨gb130, 0, none⟩ = some (.int .i64 a1_0) := (blk_cell BK130.out 0).trans rfl; have hcz7_1 : w5.cell? ⟨gb130, 1, none⟩ = some (.int .i64 a1_1) := (blk_cell BK130.out 1).trans rfl; have hcz7_2 : w5.cell? ⟨gb130, 2, none⟩ = some (.slice A1_2 l1_2.length c1_2) := (blk_cell BK130.out 2).trans rfl; have hcz7_3 : w5.cell? ⟨gb130, 3, none⟩ = some (.int .i64 a1_3) := (blk_cell BK130.out 3).trans rfl; have hcz7_4 : w5.cell? ⟨gb130, 4, none⟩ = some (.int .i64 a1_4) := (blk_cell BK130.out 4).trans rfl; have hcz7_5 : w5.cell? ⟨gb130, 5, none⟩ = some (.slice A1_5 l1_5.length c1_5) := (blk_cell BK130.out 5).trans rfl; have hcz7_6 : w5.cell? ⟨gb130, 6, none⟩ = some (.slice A1_6 l1_6.length c1_6) := (blk_cell BK130.out 6).trans rfl; have hcz7_7 : w5.cell? ⟨gb130, 7, none⟩ = some (.slice A1_7 l1_7.length c1_7) := (blk_cell BK130.out 7).trans rfl; have hfz7_0 := blk_frozen BK130.out 0; have hfz7_1 := blk_frozen BK130.out 1; have hfz7_2 := blk_frozen BK130.out 2; have hfz7_3 := blk_frozen BK130.out 3; have hfz7_4 := blk_frozen BK130.out 4; have hfz7_5 := blk_frozen BK130.out 5; have hfz7_6 := blk_frozen BK130.out 6; have hfz7_7 := blk_frozen BK130.out 7)); go_upto_if 9 with (first | ((with_reducible refine gd 2 rfl ?_); (try (refine gate_guard (by rfl) ?_; dsimp only)); refine bx 2 #[.slice A0_0 l0_0.length c0_0, .slice A0_1 l0_1.length c0_1] 31 ?_; intro gb129 hg w4 hbox hb; have BK129 := Aside0.mk hbox; have GW129 := hz HB hg; have GE129 := hz HB hg; replace HB := hs HB hb; clear hb hbox hg) | ((with_reducible refine gd 3 rfl ?_); (try (refine gate_guard (by rfl) ?_; dsimp only)); refine box_event ?hg (N := 3) ?hd (cs := #[.int .i64 a1_0, .int .i64 a1_1, .slice A1_2 l1_2.length c1_2, .int .i64 a1_3, .int .i64 a1_4, .slice A1_5 l1_5.length c1_5, .slice A1_6 l1_6.length c1_6, .slice A1_7 l1_7.length c1_7]) (t := 46) ?hr ?_; (case hd => rfl); (case hg => rfl); (case hr => first | (go_simp; done) | (go_simp; rfl)); intro gb130 hg w5 hbox hb; have n0_ := Aside0.mk (blk_below (g := gb129) (o := .cells #[.slice A0_0 l0_0.length c0_0, .slice A0_1 l0_1.length c0_1] 31 (0, 0)) (by (with_reducible repeat (first | refine blk_drewN ?_ _ | refine blk_drew ?_ | refine blk_alloc ?_ _)); exact BK129.out) hb); have n1_ := Aside0.mk (below_step bl hb); have n2_ := Aside0.mk (hbox); have n3_ := Aside0.mk ((by rw [hg]; exact (below_size bl) : w.heap.size ≤ gb130)); have n4_ := Aside0.mk ((by rw [hg]; exact (below_size bl) : w.heap.size ≤ gb130)); have n5_ := Aside0.mk ((by rw [hg]; exact Nat.ne_of_lt (blk_lt (g := gb129) (o := .cells #[.slice A0_0 l0_0.length c0_0, .slice A0_1 l0_1.length c0_1] 31 (0, 0)) (by (with_reducible repeat (first | refine blk_drewN ?_ _ | refine blk_drew ?_ | refine blk_alloc ?_ _)); exact BK129.out)) : gb129 ≠ gb130)); have n6_ := Aside0.mk ((by rw [hg]; exact Nat.ne_of_gt (blk_lt (g := gb129) (o := .cells #[.slice A0_0 l0_0.length c0_0, .slice A0_1 l0_1.length c0_1] 31 (0, 0)) (by (with_reducible repeat (first | refine blk_drewN ?_ _ | refine blk_drew ?_ | refine blk_alloc ?_ _)); exact BK129.out)) : gb130 ≠ gb129)); clear BK129; clear HB; have BK129 := n0_; have HB := n1_; have BK130 := n2_; have GW130 := n3_; have GE130 := n4_; have NB129_130 := n5_; have NB130_129 := n6_; clear n0_ n1_ n2_ n3_ n4_ n5_ n6_; clear hb hbox hg; have hnb6 := NB130_129.out; have hnc6 := NB129_130.out; have hcz7_0 : w5.cell? ⟨gb130, 0, none⟩ = some (.int .i64 a1_0) := (blk_cell BK130.out 0).trans rfl; have hcz7_1 : w5.cell? ⟨gb130, 1, none⟩ = some (.int .i64 a1_1) := (blk_cell BK130.out 1).trans rfl; have hcz7_2 : w5.cell? ⟨gb130, 2, none⟩ = some (.slice A1_2 l1_2.length c1_2) := (blk_cell BK130.out 2).trans rfl; have hcz7_3 : w5.cell? ⟨gb130, 3, none⟩ = some (.int .i64 a1_3) := (blk_cell BK130.out 3).trans rfl; have hcz7_4 : w5.cell? ⟨gb130, 4, none⟩ = some (.int .i64 a1_4) := (blk_cell BK130.out 4).trans rfl; have hcz7_5 : w5.cell? ⟨gb130, 5, none⟩ = some (.slice A1_5 l1_5.length c1_5) := (blk_cell BK130.out 5).trans rfl; have hcz7_6 : w5.cell? ⟨gb130, 6, none⟩ = some (.slice A1_6 l1_6.length c1_6) := (blk_cell BK130.out 6).trans rfl; have hcz7_7 : w5.cell? ⟨gb130, 7, none⟩ = some (.slice A1_7 l1_7.length c1_7) := (blk_cell BK130.out 7).trans rfl; have hfz7_0 := blk_frozen BK130.out 0; have hfz7_1 := blk_frozen BK130.out 1; have hfz7_2 := blk_frozen BK130.out 2; have hfz7_3 := blk_frozen BK130.out 3; have hfz7_4 := blk_frozen BK130.out 4; have hfz7_5 := blk_frozen BK130.out 5; have hfz7_6 := blk_frozen BK130.out 6; have hfz7_7 := blk_frozen BK130.out 7)))
 (try simp only [Act.put, List.setIfInBounds_toArray, List.set_cons_zero, List.set_cons_succ])
 go_cut [5] (fun v5 wc => ∃ (kq : Nat) (x5_2 : Int), v5 = .int .i64 x5_2 ∧ Aside0 (spec_l3Head.j0 kq x5_2 l0_0 l0_1 a1_0 a1_1 l1_2 a1_3 a1_4 l1_5 l1_6 l1_7 = some r) ∧ Aside0 (kq ≤ k) ∧ Aside0 (wc.heap[gb129]? = some (.cells #[(.slice A0_0 l0_0.length c0_0), (.slice A0_1 l0_1.length c0_1)] 31 (0, 0))) ∧ Aside0 (wc.heap[gb130]? = some (.cells #[.int .i64 a1_0, .int .i64 a1_1, (.slice A1_2 l1_2.length c1_2), .int .i64 a1_3, .int .i64 a1_4, (.slice A1_5 l1_5.length c1_5), (.slice A1_6 l1_6.length c1_6), (.slice A1_7 l1_7.length c1_7)] 46 (0, 0))) ∧ Aside0 (Below w.heap.size w wc))
 case first =>
  have H := HC3.out
  clear HC3
  by_cases c8 : a1_0 ≥ 0
  ·rw [if_pos c8] at H
   have c8b0 : decide (0 ≤ a1_0) = true := decide_eq_true c8
   clear c8
   (first | rw [c8b0] | (simp only [i64_w, i32_w]; rw [c8b0]) | skip)
   have H' := Aside0.mk H
   clear H
   go_wp2
   repeat (go_quiet (fail); try go_wp2)
   go_meet
   case rel => exact ⟨_, (1), (by first | rfl | (simp; done) | (simp [*]; done)), H', ⟨by first | omega | exact Nat.le_refl _⟩, kk BK129, kk BK130, ⟨bl⟩⟩
  ·rw [if_neg c8] at H
   have c8b0 : decide (0 ≤ a1_0) = false := decide_eq_false c8
   clear c8
   (first | rw [c8b0] | (simp only [i64_w, i32_w]; rw [c8b0]) | skip)
   have H' := Aside0.mk H
   clear H
   go_wp2
   repeat (go_quiet (fail); try go_wp2)
   go_meet
   case rel => exact ⟨_, (0), (by first | rfl | (simp; done) | (simp [*]; done)), H', ⟨by first | omega | exact Nat.le_refl _⟩, kk BK129, kk BK130, ⟨bl⟩⟩
 case rest =>
  clear HC3
  obtain ⟨kq, x5_2, rfl, HA, HJ2, BK129, BK130, HB⟩ := hcut
  cases kq with
  | zero => exact absurd HA.out (by simp [spec_l3Head.j0])
  | succ kj2 =>
   have H := HA.out
   clear HA
   simp only [spec_l3Head.j0] at H
   have HC9 := Aside0.mk H
   clear H
   go_upto_region 4 with (fail)
   repeat (go_quiet (fail); go_upto_region 4 with (fail))
   go_cut [47] (fun v47 wc => ∃ (kq : Nat) (x47_8 : Bool), v47 = .bool x47_8 ∧ Aside0 (spec_l3Head.j1 kq x47_8 l0_0 l0_1 a1_0 a1_1 l1_2 a1_3 a1_4 l1_5 l1_6 l1_7 = some r) ∧ Aside0 (kq ≤ kj2) ∧ Aside0 (wc.heap[gb129]? = some (.cells #[(.slice A0_0 l0_0.length c0_0), (.slice A0_1 l0_1.length c0_1)] 31 (0, 0))) ∧ Aside0 (wc.heap[gb130]? = some (.cells #[.int .i64 a1_0, .int .i64 a1_1, (.slice A1_2 l1_2.length c1_2), .int .i64 a1_3, .int .i64 a1_4, (.slice A1_5 l1_5.length c1_5), (.slice A1_6 l1_6.length c1_6), (.slice A1_7 l1_7.length c1_7)] 46 (0, 0))) ∧ Aside0 (Below w.heap.size w wc))
   case first =>
    have H := HC9.out
    clear HC9
    by_cases c10 : a1_0 = 0
    ·rw [if_pos c10] at H
     have c10b0 := beq_iff_eq.mpr c10
     have c10b1 := bne_eq_false_iff_eq.mpr c10
     clear c10
     (first | rw [c10b0] | (simp only [i64_w, i32_w]; rw [c10b0]) | skip)
     have H' := Aside0.mk H
     clear H
     have hnb11 := NB130_129.out
     have hnc11 := NB129_130.out
     obtain ⟨_,_,_,_,_,_,_,_,_,_,_,_,_,_,_,_⟩ := cf8 BK130
     go_wp2
     repeat (go_quiet (fail); try go_wp2)
     go_meet
     case rel => exact ⟨_, (true), (by first | rfl | (simp; done) | (simp [*]; done)), H', ⟨by have := HJ2.out; first | omega | exact Nat.le_refl _⟩, kk BK129, kk BK130, ⟨bl⟩⟩
    ·rw [if_neg c10] at H
     have c10b0 := beq_eq_false_iff_ne.mpr c10
     have c10b1 := bne_iff_ne.mpr c10
     (first | rw [c10b0] | (simp only [i64_w, i32_w]; rw [c10b0]) | skip)
     obtain ⟨t131, A13, H⟩ := ob H
     by_cases c14 : t131 = true
     ·subst c14
      replace H := it H
      by_cases c15 : (l1_2.length : Int) > 2
      ·rw [if_pos c15] at H
       have c15b0 : decide (2 < (l1_2.length : Int)) = true := decide_eq_true c15
       have c15b1 : decide (2 < l1_2.length) = true := decide_eq_true (by omega)
       clear c15
       have H' := Aside0.mk H
       clear H
       have hnb16 := NB130_129.out
       have hnc16 := NB129_130.out
       obtain ⟨_,_,_,_,_,_,_,_,_,_,_,_,_,_,_,_⟩ := cf8 BK130
       obtain ⟨_,_,_,_⟩ := cf2 BK129
       go_wp2_with (first | (go_at_call 15; (with_reducible refine (spec_l6In.calls a1_0 (-1) (wrap64 ((l0_0.length : Int) - 1)) true _ A13.out).mono ?_); rintro e w' ⟨rfl, ⟨nd, rfl⟩⟩; (try first | exact ⟨rfl, _, World.drewN_drewN _ _ _⟩ | exact ⟨rfl, _, Eq.trans (World.drewN_drewN _ _ _) (congrArg (World.drewN _) (Nat.add_assoc _ _ _))⟩)))
       repeat (go_quiet (first | (go_at_call 15; (with_reducible refine (spec_l6In.calls a1_0 (-1) (wrap64 ((l0_0.length : Int) - 1)) true _ A13.out).mono ?_); rintro e w' ⟨rfl, ⟨nd, rfl⟩⟩; (try first | exact ⟨rfl, _, World.drewN_drewN _ _ _⟩ | exact ⟨rfl, _, Eq.trans (World.drewN_drewN _ _ _) (congrArg (World.drewN _) (Nat.add_assoc _ _ _))⟩))); try go_wp2_with (first | (go_at_call 15; (with_reducible refine (spec_l6In.calls a1_0 (-1) (wrap64 ((l0_0.length : Int) - 1)) true _ A13.out).mono ?_); rintro e w' ⟨rfl, ⟨nd, rfl⟩⟩; (try first | exact ⟨rfl, _, World.drewN_drewN _ _ _⟩ | exact ⟨rfl, _, Eq.trans (World.drewN_drewN _ _ _) (congrArg (World.drewN _) (Nat.add_assoc _ _ _))⟩))))
       go_meet
       case rel => exact ⟨_, (true), (by first | rfl | (simp; done) | (simp [*]; done)), H', ⟨by have := HJ2.out; first | omega | exact Nat.le_refl _⟩, kk BK129, kk BK130, ⟨bl⟩⟩
      ·rw [if_neg c15] at H
       have c15b0 : decide (2 < (l1_2.length : Int)) = false := decide_eq_false c15
       have c15b1 : decide (2 < l1_2.length) = false := decide_eq_false (by omega)
       clear c15
       obtain ⟨t132, A19, H⟩ := ob H
       by_cases c20 : t132 = true
       ·subst c20
        replace H := it H
        obtain ⟨t133, A21, H⟩ := ob H
        have H' := Aside0.mk H
        clear H
        have hnb22 := NB130_129.out
        have hnc22 := NB129_130.out
        obtain ⟨_,_,_,_,_,_,_,_,_,_,_,_,_,_,_,_⟩ := cf8 BK130
        obtain ⟨_,_,_,_⟩ := cf2 BK129
        go_wp2_with (first | (go_at_call 15; (with_reducible refine (spec_l6In.calls a1_0 (-1) (wrap64 ((l0_0.length : Int) - 1)) true _ A13.out).mono ?_); rintro e w' ⟨rfl, ⟨nd, rfl⟩⟩; (try first | exact ⟨rfl, _, World.drewN_drewN _ _ _⟩ | exact ⟨rfl, _, Eq.trans (World.drewN_drewN _ _ _) (congrArg (World.drewN _) (Nat.add_assoc _ _ _))⟩)) | (go_at_call 54; (with_reducible refine (spec_l2Field.calls _ _ l0_0 a1_3 true _ ?side1 ?side2 A19.out).mono ?_); (case side1 => exact cb HR0_0.out); (case side2 => exact HC0_0.out); rintro e w' ⟨rfl, ⟨nd, rfl⟩⟩; (try first | exact ⟨rfl, _, World.drewN_drewN _ _ _⟩ | exact ⟨rfl, _, Eq.trans (World.drewN_drewN _ _ _) (congrArg (World.drewN _) (Nat.add_assoc _ _ _))⟩)) | (go_at_call 15; (with_reducible refine (spec_l6In.calls a1_4 (wrap64 (x5_2 + (l1_2.length : Int))) 3 t133 _ A21.out).mono ?_); rintro e w' ⟨rfl, ⟨nd, rfl⟩⟩; (try first | exact ⟨rfl, _, World.drewN_drewN _ _ _⟩ | exact ⟨rfl, _, Eq.trans (World.drewN_drewN _ _ _) (congrArg (World.drewN _) (Nat.add_assoc _ _ _))⟩)))
        repeat (go_quiet (first | (go_at_call 15; (with_reducible refine (spec_l6In.calls a1_0 (-1) (wrap64 ((l0_0.length : Int) - 1)) true _ A13.out).mono ?_); rintro e w' ⟨rfl, ⟨nd, rfl⟩⟩; (try first | exact ⟨rfl, _, World.drewN_drewN _ _ _⟩ | exact ⟨rfl, _, Eq.trans (World.drewN_drewN _ _ _) (congrArg (World.drewN _) (Nat.add_assoc _ _ _))⟩)) | (go_at_call 54; (with_reducible refine (spec_l2Field.calls _ _ l0_0 a1_3 true _ ?side1 ?side2 A19.out).mono ?_); (case side1 => repeat (first | exact (Kd.C_below HR0_0.out (by repeat (first | (with_reducible first | exact HB.out | apply below_alloc | apply pw_below_drewN | apply below_drew1 | refine below_set ?_ GE129.out | refine below_set ?_ GE130.out) | exact HB.out))) | (with_reducible refine Kd.C_alloc ?_ _) | (with_reducible refine Kd.C_drewN ?_ _) | (with_reducible refine Kd.C_drew ?_))); (case side2 => exact HC0_0.out); rintro e w' ⟨rfl, ⟨nd, rfl⟩⟩; (try first | exact ⟨rfl, _, World.drewN_drewN _ _ _⟩ | exact ⟨rfl, _, Eq.trans (World.drewN_drewN _ _ _) (congrArg (World.drewN _) (Nat.add_assoc _ _ _))⟩)) | (go_at_call 15; (with_reducible refine (spec_l6In.calls a1_4 (wrap64 (x5_2 + (l1_2.length : Int))) 3 t133 _ A21.out).mono ?_); rintro e w' ⟨rfl, ⟨nd, rfl⟩⟩; (try first | exact ⟨rfl, _, World.drewN_drewN _ _ _⟩ | exact ⟨rfl, _, Eq.trans (World.drewN_drewN _ _ _) (congrArg (World.drewN _) (Nat.add_assoc _ _ _))⟩))); try go_wp2_with (first | (go_at_call 15; (with_reducible refine (spec_l6In.calls a1_0 (-1) (wrap64 ((l0_0.length : Int) - 1)) true _ A13.out).mono ?_); rintro e w' ⟨rfl, ⟨nd, rfl⟩⟩; (try first | exact ⟨rfl, _, World.drewN_drewN _ _ _⟩ | exact ⟨rfl, _, Eq.trans (World.drewN_drewN _ _ _) (congrArg (World.drewN _) (Nat.add_assoc _ _ _))⟩)) | (go_at_call 54; (with_reducible refine (spec_l2Field.calls _ _ l0_0 a1_3 true _ ?side1 ?side2 A19.out).mono ?_); (case side1 => exact cb HR0_0.out); (case side2 => exact HC0_0.out); rintro e w' ⟨rfl, ⟨nd, rfl⟩⟩; (try first | exact ⟨rfl, _, World.drewN_drewN _ _ _⟩ | exact ⟨rfl, _, Eq.trans (World.drewN_drewN _ _ _) (congrArg (World.drewN _) (Nat.add_assoc _ _ _))⟩)) | (go_at_call 15; (with_reducible refine (spec_l6In.calls a1_4 (wrap64 (x5_2 + (l1_2.length : Int))) 3 t133 _ A21.out).mono ?_); rintro e w' ⟨rfl, ⟨nd, rfl⟩⟩; (try first | exact ⟨rfl, _, World.drewN_drewN _ _ _⟩ | exact ⟨rfl, _, Eq.trans (World.drewN_drewN _ _ _) (congrArg (World.drewN _) (Nat.add_assoc _ _ _))⟩))))
        go_meet
        case rel => exact ⟨_, (!t133), (by first | rfl | (simp; done) | (simp [*]; done)), H', ⟨by have := HJ2.out; first | omega | exact Nat.le_refl _⟩, kk BK129, kk BK130, ⟨bl⟩⟩
       ·replace c20 := Bool.eq_false_iff.mpr c20
        subst c20
        replace H := ie H
        have H' := Aside0.mk H
        clear H
        have hnb25 := NB130_129.out
        have hnc25 := NB129_130.out
        obtain ⟨_,_,_,_,_,_,_,_,_,_,_,_,_,_,_,_⟩ := cf8 BK130
        obtain ⟨_,_,_,_⟩ := cf2 BK129
        go_wp2_with (first | (go_at_call 15; (with_reducible refine (spec_l6In.calls a1_0 (-1) (wrap64 ((l0_0.length : Int) - 1)) true _ A13.out).mono ?_); rintro e w' ⟨rfl, ⟨nd, rfl⟩⟩; (try first | exact ⟨rfl, _, World.drewN_drewN _ _ _⟩ | exact ⟨rfl, _, Eq.trans (World.drewN_drewN _ _ _) (congrArg (World.drewN _) (Nat.add_assoc _ _ _))⟩)) | (go_at_call 54; (with_reducible refine (spec_l2Field.calls _ _ l0_0 a1_3 false _ ?side1 ?side2 A19.out).mono ?_); (case side1 => exact cb HR0_0.out); (case side2 => exact HC0_0.out); rintro e w' ⟨rfl, ⟨nd, rfl⟩⟩; (try first | exact ⟨rfl, _, World.drewN_drewN _ _ _⟩ | exact ⟨rfl, _, Eq.trans (World.drewN_drewN _ _ _) (congrArg (World.drewN _) (Nat.add_assoc _ _ _))⟩)))
        repeat (go_quiet (first | (go_at_call 15; (with_reducible refine (spec_l6In.calls a1_0 (-1) (wrap64 ((l0_0.length : Int) - 1)) true _ A13.out).mono ?_); rintro e w' ⟨rfl, ⟨nd, rfl⟩⟩; (try first | exact ⟨rfl, _, World.drewN_drewN _ _ _⟩ | exact ⟨rfl, _, Eq.trans (World.drewN_drewN _ _ _) (congrArg (World.drewN _) (Nat.add_assoc _ _ _))⟩)) | (go_at_call 54; (with_reducible refine (spec_l2Field.calls _ _ l0_0 a1_3 false _ ?side1 ?side2 A19.out).mono ?_); (case side1 => repeat (first | exact (Kd.C_below HR0_0.out (by repeat (first | (with_reducible first | exact HB.out | apply below_alloc | apply pw_below_drewN | apply below_drew1 | refine below_set ?_ GE129.out | refine below_set ?_ GE130.out) | exact HB.out))) | (with_reducible refine Kd.C_alloc ?_ _) | (with_reducible refine Kd.C_drewN ?_ _) | (with_reducible refine Kd.C_drew ?_))); (case side2 => exact HC0_0.out); rintro e w' ⟨rfl, ⟨nd, rfl⟩⟩; (try first | exact ⟨rfl, _, World.drewN_drewN _ _ _⟩ | exact ⟨rfl, _, Eq.trans (World.drewN_drewN _ _ _) (congrArg (World.drewN _) (Nat.add_assoc _ _ _))⟩))); try go_wp2_with (first | (go_at_call 15; (with_reducible refine (spec_l6In.calls a1_0 (-1) (wrap64 ((l0_0.length : Int) - 1)) true _ A13.out).mono ?_); rintro e w' ⟨rfl, ⟨nd, rfl⟩⟩; (try first | exact ⟨rfl, _, World.drewN_drewN _ _ _⟩ | exact ⟨rfl, _, Eq.trans (World.drewN_drewN _ _ _) (congrArg (World.drewN _) (Nat.add_assoc _ _ _))⟩)) | (go_at_call 54; (with_reducible refine (spec_l2Field.calls _ _ l0_0 a1_3 false _ ?side1 ?side2 A19.out).mono ?_); (case side1 => exact cb HR0_0.out); (case side2 => exact HC0_0.out); rintro e w' ⟨rfl, ⟨nd, rfl⟩⟩; (try first | exact ⟨rfl, _, World.drewN_drewN _ _ _⟩ | exact ⟨rfl, _, Eq.trans (World.drewN_drewN _ _ _) (congrArg (World.drewN _) (Nat.add_assoc _ _ _))⟩))))
        go_meet
        case rel => exact ⟨_, (true), (by first | rfl | (simp; done) | (simp [*]; done)), H', ⟨by have := HJ2.out; first | omega | exact Nat.le_refl _⟩, kk BK129, kk BK130, ⟨bl⟩⟩
     ·replace c14 := Bool.eq_false_iff.mpr c14
      subst c14
      replace H := ie H
      have H' := Aside0.mk H
      clear H
      have hnb28 := NB130_129.out
      have hnc28 := NB129_130.out
      obtain ⟨_,_,_,_,_,_,_,_,_,_,_,_,_,_,_,_⟩ := cf8 BK130
      obtain ⟨_,_,_,_⟩ := cf2 BK129
      go_wp2_with (first | (go_at_call 15; (with_reducible refine (spec_l6In.calls a1_0 (-1) (wrap64 ((l0_0.length : Int) - 1)) false _ A13.out).mono ?_); rintro e w' ⟨rfl, ⟨nd, rfl⟩⟩; (try first | exact ⟨rfl, _, World.drewN_drewN _ _ _⟩ | exact ⟨rfl, _, Eq.trans (World.drewN_drewN _ _ _) (congrArg (World.drewN _) (Nat.add_assoc _ _ _))⟩)))
      repeat (go_quiet (first | (go_at_call 15; (with_reducible refine (spec_l6In.calls a1_0 (-1) (wrap64 ((l0_0.length : Int) - 1)) false _ A13.out).mono ?_); rintro e w' ⟨rfl, ⟨nd, rfl⟩⟩; (try first | exact ⟨rfl, _, World.drewN_drewN _ _ _⟩ | exact ⟨rfl, _, Eq.trans (World.drewN_drewN _ _ _) (congrArg (World.drewN _) (Nat.add_assoc _ _ _))⟩))); try go_wp2_with (first | (go_at_call 15; (with_reducible refine (spec_l6In.calls a1_0 (-1) (wrap64 ((l0_0.length : Int) - 1)) false _ A13.out).mono ?_); rintro e w' ⟨rfl, ⟨nd, rfl⟩⟩; (try first | exact ⟨rfl, _, World.drewN_drewN _ _ _⟩ | exact ⟨rfl, _, Eq.trans (World.drewN_drewN _ _ _) (congrArg (World.drewN _) (Nat.add_assoc _ _ _))⟩))))
      go_meet
      case rel => exact ⟨_, (true), (by first | rfl | (simp; done) | (simp [*]; done)), H', ⟨by have := HJ2.out; first | omega | exact Nat.le_refl _⟩, kk BK129, kk BK130, ⟨bl⟩⟩
   case rest =>
    clear HC9
    obtain ⟨kq, x47_8, rfl, HA, HJ8, BK129, BK130, HB⟩ := hcut
    cases kq with
    | zero => exact absurd HA.out (by simp [spec_l3Head.j1])
    | succ kj8 =>
     have H := HA.out
     clear HA
     simp only [spec_l3Head.j1] at H
     by_cases c31 : x47_8 = true
     ·subst c31
      replace H := it H
      obtain rfl := Option.some.inj H; clear H
      go_wp2
      repeat (go_quiet (fail); try go_wp2)
      go_ret
      exact fin
     ·replace c31 := Bool.eq_false_iff.mpr c31
      subst c31
      replace H := ie H
      have H' := Aside0.mk H
      clear H
      go_wp2
      repeat (go_quiet (fail); try go_wp2)
      go_loopg [6] kj8 (fun kq v6 w' => ∃ (x6_3 : Int), v6 = .int .i64 x6_3 ∧ Aside0 (spec_l3Head.l0 kq x6_3 l0_0 l0_1 a1_0 a1_1 l1_2 a1_3 a1_4 l1_5 l1_6 l1_7 = some r) ∧ Aside0 (kq ≤ kj8) ∧ Aside0 (w'.heap[gb129]? = some (.cells #[(.slice A0_0 l0_0.length c0_0), (.slice A0_1 l0_1.length c0_1)] 31 (0, 0))) ∧ Aside0 (w'.heap[gb130]? = some (.cells #[.int .i64 a1_0, .int .i64 a1_1, (.slice A1_2 l1_2.length c1_2), .int .i64 a1_3, .int .i64 a1_4, (.slice A1_5 l1_5.length c1_5), (.slice A1_6 l1_6.length c1_6), (.slice A1_7 l1_7.length c1_7)] 46 (0, 0))) ∧ Aside0 (Below w.heap.size w w'))
      case atStart => exact ⟨(0), (by first | rfl | (simp; done) | (simp [*]; done)), H', ⟨Nat.le_refl _⟩, kk BK129, kk BK130, ⟨bl⟩⟩
      case round =>
       clear H'
       obtain ⟨x6_3, rfl, HA, HK3, BK129, BK130, HB⟩ := hrel
       cases gk with
       | zero => exact absurd HA.out (by simp [spec_l3Head.l0])
       | succ k3 =>
        have H := HA.out
        clear HA
        simp only [spec_l3Head.l0] at H
        by_cases c32 : x6_3 < (l1_2.length : Int)
        ·rw [if_pos c32] at H
         have c32b0 : decide (x6_3 < (l1_2.length : Int)) = true := decide_eq_true c32
         clear c32
         by_cases c33 : 0 ≤ x6_3
         ·rw [if_pos c33] at H
          have c33b0 : decide (0 ≤ x6_3) = true := decide_eq_true c33
          clear c33
          obtain ⟨t135, A34, H⟩ := ob H
          by_cases c35 : t135 = true
          ·subst c35
           replace H := it H
           have H' := Aside0.mk H
           clear H
           have hnb36 := NB130_129.out
           have hnc36 := NB129_130.out
           obtain ⟨_,_,_,_,_,_,_,_,_,_,_,_,_,_,_,_⟩ := cf8 BK130
           obtain ⟨_,_,_,_⟩ := cf2 BK129
           have p134 : 0 ≤ (x6_3 : Int) := od
           have q134 : x6_3 < (l1_2.length : Int) := od
           obtain ⟨ad134, e134, hx134_0⟩ := Kd.at_int HR1_2.out x6_3 p134 q134
           cases e134
           replace hx134_0 := hc HB hx134_0
           replace p134 := eq_true p134
           replace q134 := eq_true q134
           go_wp2_with (first | (go_at_call 54; (with_reducible refine (spec_l2Field.calls _ _ l0_0 (rd l1_2 x6_3) true _ ?side1 ?side2 A34.out).mono ?_); (case side1 => exact cb HR0_0.out); (case side2 => exact HC0_0.out); rintro e w' ⟨rfl, ⟨nd, rfl⟩⟩; (try first | exact ⟨rfl, _, World.drewN_drewN _ _ _⟩ | exact ⟨rfl, _, Eq.trans (World.drewN_drewN _ _ _) (congrArg (World.drewN _) (Nat.add_assoc _ _ _))⟩)))
           repeat (go_quiet (first | (go_at_call 54; (with_reducible refine (spec_l2Field.calls _ _ l0_0 (rd l1_2 x6_3) true _ ?side1 ?side2 A34.out).mono ?_); (case side1 => repeat (first | exact (Kd.C_below HR0_0.out HB.out) | (with_reducible refine Kd.C_alloc ?_ _) | (with_reducible refine Kd.C_drewN ?_ _) | (with_reducible refine Kd.C_drew ?_))); (case side2 => exact HC0_0.out); rintro e w' ⟨rfl, ⟨nd, rfl⟩⟩; (try first | exact ⟨rfl, _, World.drewN_drewN _ _ _⟩ | exact ⟨rfl, _, Eq.trans (World.drewN_drewN _ _ _) (congrArg (World.drewN _) (Nat.add_assoc _ _ _))⟩))); try go_wp2_with (first | (go_at_call 54; (with_reducible refine (spec_l2Field.calls _ _ l0_0 (rd l1_2 x6_3) true _ ?side1 ?side2 A34.out).mono ?_); (case side1 => exact cb HR0_0.out); (case side2 => exact HC0_0.out); rintro e w' ⟨rfl, ⟨nd, rfl⟩⟩; (try first | exact ⟨rfl, _, World.drewN_drewN _ _ _⟩ | exact ⟨rfl, _, Eq.trans (World.drewN_drewN _ _ _) (congrArg (World.drewN _) (Nat.add_assoc _ _ _))⟩))))
           go_roundg k3
           case measure => have := HJ2.out; have := HJ8.out; have := HK3.out; omega
           case rel => exact ⟨(wrap64 (x6_3 + 1)), (by first | rfl | (simp; done) | (simp [*]; done)), H', ⟨by have := HJ2.out; have := HJ8.out; have := HK3.out; omega⟩, kk BK129, kk BK130, ⟨bl⟩⟩
          ·replace c35 := Bool.eq_false_iff.mpr c35
           subst c35
           replace H := ie H
           obtain rfl := Option.some.inj H; clear H
           have hnb39 := NB130_129.out
           have hnc39 := NB129_130.out
           obtain ⟨_,_,_,_,_,_,_,_,_,_,_,_,_,_,_,_⟩ := cf8 BK130
           obtain ⟨_,_,_,_⟩ := cf2 BK129
           have p134 : 0 ≤ (x6_3 : Int) := od
           have q134 : x6_3 < (l1_2.length : Int) := od
           obtain ⟨ad134, e134, hx134_0⟩ := Kd.at_int HR1_2.out x6_3 p134 q134
           cases e134
           replace hx134_0 := hc HB hx134_0
           replace p134 := eq_true p134
           replace q134 := eq_true q134
           go_wp2_with (first | (go_at_call 54; (with_reducible refine (spec_l2Field.calls _ _ l0_0 (rd l1_2 x6_3) false _ ?side1 ?side2 A34.out).mono ?_); (case side1 => exact cb HR0_0.out); (case side2 => exact HC0_0.out); rintro e w' ⟨rfl, ⟨nd, rfl⟩⟩; (try first | exact ⟨rfl, _, World.drewN_drewN _ _ _⟩ | exact ⟨rfl, _, Eq.trans (World.drewN_drewN _ _ _) (congrArg (World.drewN _) (Nat.add_assoc _ _ _))⟩)))
           repeat (go_quiet (first | (go_at_call 54; (with_reducible refine (spec_l2Field.calls _ _ l0_0 (rd l1_2 x6_3) false _ ?side1 ?side2 A34.out).mono ?_); (case side1 => repeat (first | exact (Kd.C_below HR0_0.out HB.out) | (with_reducible refine Kd.C_alloc ?_ _) | (with_reducible refine Kd.C_drewN ?_ _) | (with_reducible refine Kd.C_drew ?_))); (case side2 => exact HC0_0.out); rintro e w' ⟨rfl, ⟨nd, rfl⟩⟩; (try first | exact ⟨rfl, _, World.drewN_drewN _ _ _⟩ | exact ⟨rfl, _, Eq.trans (World.drewN_drewN _ _ _) (congrArg (World.drewN _) (Nat.add_assoc _ _ _))⟩))); try go_wp2_with (first | (go_at_call 54; (with_reducible refine (spec_l2Field.calls _ _ l0_0 (rd l1_2 x6_3) false _ ?side1 ?side2 A34.out).mono ?_); (case side1 => exact cb HR0_0.out); (case side2 => exact HC0_0.out); rintro e w' ⟨rfl, ⟨nd, rfl⟩⟩; (try first | exact ⟨rfl, _, World.drewN_drewN _ _ _⟩ | exact ⟨rfl, _, Eq.trans (World.drewN_drewN _ _ _) (congrArg (World.drewN _) (Nat.add_assoc _ _ _))⟩))))
           go_ret
           exact fin
         ·rw [if_neg c33] at H
          exact absurd H (by simp)
        ·rw [if_neg c32] at H
         have c32b0 : decide (x6_3 < (l1_2.length : Int)) = false := decide_eq_false c32
         clear c32
         by_cases c42 : a1_0 ≥ 0
         ·rw [if_pos c42] at H
          have c42b0 : decide (0 ≤ a1_0) = true := decide_eq_true c42
          clear c42
          obtain ⟨t136, A43, H⟩ := ob H
          by_cases c44 : t136 = true
          ·subst c44
           replace H := it H
           obtain rfl := Option.some.inj H; clear H
           have hnb45 := NB130_129.out
           have hnc45 := NB129_130.out
           obtain ⟨_,_,_,_,_,_,_,_,_,_,_,_,_,_,_,_⟩ := cf8 BK130
           go_wp2_with (first | (go_at_call 15; (with_reducible refine (spec_l6In.calls a1_1 0 2 true _ A43.out).mono ?_); rintro e w' ⟨rfl, ⟨nd, rfl⟩⟩; (try first | exact ⟨rfl, _, World.drewN_drewN _ _ _⟩ | exact ⟨rfl, _, Eq.trans (World.drewN_drewN _ _ _) (congrArg (World.drewN _) (Nat.add_assoc _ _ _))⟩)))
           repeat (go_quiet (first | (go_at_call 15; (with_reducible refine (spec_l6In.calls a1_1 0 2 true _ A43.out).mono ?_); rintro e w' ⟨rfl, ⟨nd, rfl⟩⟩; (try first | exact ⟨rfl, _, World.drewN_drewN _ _ _⟩ | exact ⟨rfl, _, Eq.trans (World.drewN_drewN _ _ _) (congrArg (World.drewN _) (Nat.add_assoc _ _ _))⟩))); try go_wp2_with (first | (go_at_call 15; (with_reducible refine (spec_l6In.calls a1_1 0 2 true _ A43.out).mono ?_); rintro e w' ⟨rfl, ⟨nd, rfl⟩⟩; (try first | exact ⟨rfl, _, World.drewN_drewN _ _ _⟩ | exact ⟨rfl, _, Eq.trans (World.drewN_drewN _ _ _) (congrArg (World.drewN _) (Nat.add_assoc _ _ _))⟩))))
           go_ret
           exact fin
          ·replace c44 := Bool.eq_false_iff.mpr c44
           subst c44
           replace H := ie H
           by_cases c47 : a1_0 < 0
           ·rw [if_pos c47] at H
            have c47b0 : decide (a1_0 < 0) = true := decide_eq_true c47
            clear c47
            obtain rfl := Option.some.inj H; clear H
            have hnb48 := NB130_129.out
            have hnc48 := NB129_130.out
            obtain ⟨_,_,_,_,_,_,_,_,_,_,_,_,_,_,_,_⟩ := cf8 BK130
            go_wp2_with (first | (go_at_call 15; (with_reducible refine (spec_l6In.calls a1_1 0 2 false _ A43.out).mono ?_); rintro e w' ⟨rfl, ⟨nd, rfl⟩⟩; (try first | exact ⟨rfl, _, World.drewN_drewN _ _ _⟩ | exact ⟨rfl, _, Eq.trans (World.drewN_drewN _ _ _) (congrArg (World.drewN _) (Nat.add_assoc _ _ _))⟩)))
            repeat (go_quiet (first | (go_at_call 15; (with_reducible refine (spec_l6In.calls a1_1 0 2 false _ A43.out).mono ?_); rintro e w' ⟨rfl, ⟨nd, rfl⟩⟩; (try first | exact ⟨rfl, _, World.drewN_drewN _ _ _⟩ | exact ⟨rfl, _, Eq.trans (World.drewN_drewN _ _ _) (congrArg (World.drewN _) (Nat.add_assoc _ _ _))⟩))); try go_wp2_with (first | (go_at_call 15; (with_reducible refine (spec_l6In.calls a1_1 0 2 false _ A43.out).mono ?_); rintro e w' ⟨rfl, ⟨nd, rfl⟩⟩; (try first | exact ⟨rfl, _, World.drewN_drewN _ _ _⟩ | exact ⟨rfl, _, Eq.trans (World.drewN_drewN _ _ _) (congrArg (World.drewN _) (Nat.add_assoc _ _ _))⟩))))
            go_ret
            exact fin
           ·rw [if_neg c47] at H
            have c47b0 : decide (a1_0 < 0) = false := decide_eq_false c47
            clear c47
            obtain rfl := Option.some.inj H; clear H
            have hnb50 := NB130_129.out
            have hnc50 := NB129_130.out
            obtain ⟨_,_,_,_,_,_,_,_,_,_,_,_,_,_,_,_⟩ := cf8 BK130
            go_wp2_with (first | (go_at_call 15; (with_reducible refine (spec_l6In.calls a1_1 0 2 false _ A43.out).mono ?_); rintro e w' ⟨rfl, ⟨nd, rfl⟩⟩; (try first | exact ⟨rfl, _, World.drewN_drewN _ _ _⟩ | exact ⟨rfl, _, Eq.trans (World.drewN_drewN _ _ _) (congrArg (World.drewN _) (Nat.add_assoc _ _ _))⟩)))
            repeat (go_quiet (first | (go_at_call 15; (with_reducible refine (spec_l6In.calls a1_1 0 2 false _ A43.out).mono ?_); rintro e w' ⟨rfl, ⟨nd, rfl⟩⟩; (try first | exact ⟨rfl, _, World.drewN_drewN _ _ _⟩ | exact ⟨rfl, _, Eq.trans (World.drewN_drewN _ _ _) (congrArg (World.drewN _) (Nat.add_assoc _ _ _))⟩))); try go_wp2_with (first | (go_at_call 15; (with_reducible refine (spec_l6In.calls a1_1 0 2 false _ A43.out).mono ?_); rintro e w' ⟨rfl, ⟨nd, rfl⟩⟩; (try first | exact ⟨rfl, _, World.drewN_drewN _ _ _⟩ | exact ⟨rfl, _, Eq.trans (World.drewN_drewN _ _ _) (congrArg (World.drewN _) (Nat.add_assoc _ _ _))⟩))))
            go_ret
            exact fin
         ·rw [if_neg c42] at H
          have c42b0 : decide (0 ≤ a1_0) = false := decide_eq_false c42
          clear c42
          by_cases c52 : a1_0 < 0
          ·rw [if_pos c52] at H
           have c52b0 : decide (a1_0 < 0) = true := decide_eq_true c52
           clear c52
           obtain rfl := Option.some.inj H; clear H
           have hnb53 := NB130_129.out
           have hnc53 := NB129_130.out
           obtain ⟨_,_,_,_,_,_,_,_,_,_,_,_,_,_,_,_⟩ := cf8 BK130
           go_wp2
           repeat (go_quiet (fail); try go_wp2)
           go_ret
           exact fin
          ·rw [if_neg c52] at H
           have c52b0 : decide (a1_0 < 0) = false := decide_eq_false c52
           clear c52
           obtain rfl := Option.some.inj H; clear H
           have hnb55 := NB130_129.out
           have hnc55 := NB129_130.out
           obtain ⟨_,_,_,_,_,_,_,_,_,_,_,_,_,_,_,_⟩ := cf8 BK130
           go_wp2
           repeat (go_quiet (fail); try go_wp2)
           go_ret
           exact fin
end Go.Proofs.Ytedodaifpekahaa.P

end
section

namespace Go.Proofs.Ytedodaifpekahaa.P
open Go.RowKit Go.Proofs.YtedodaifpekahaaW.PrintWords Go.Proofs.YtedodaifpekahaaW.PrintLast Go.Proofs.YtedodaifpekahaaW.PrintMore
attribute [local go_sem] max2_int min2_int max_two min_two max_three min_three max_four min_four
set_option linter.unusedVariables false
set_option linter.unusedSimpArgs false
set_option maxHeartbeats 8000000 in
set_option maxRecDepth 100000 in
theorem spec_l1Word.calls (a0 : Int) (r : Bool) (w : World) (h : spec_l1Word.f a0 = some r) :
  Calls Try.prog 55 #[.int .i64 a0] w fun e w' => e = .returned (.bool r) ∧ Drawn0 w w' := by
 have H : ((spec_l6In.f a0 (-128) 127).bind fun t137 => (some t137)) = some r := h
 clear h
 obtain ⟨t137, A2, H⟩ := ob H
 obtain rfl := Option.some.inj H; clear H
 go_enter Try.func55, Try.ntmps55
 go_wp2_with (first | ((with_reducible refine gc 15 rfl ?_); refine gl (some 4) Try.func15 #[.int .i64 a0, .int .i64 (-128), .int .i64 127] rfl ?_; (with_reducible refine (spec_l6In.calls a0 (-128) 127 t137 _ A2.out).mono ?_); rintro e w' ⟨rfl, ⟨nd, rfl⟩⟩; refine ⟨_, rfl, ?_⟩))
 go_ret
 exact ⟨by first | rfl | (simp; done) | (simp [*]; done), by repeat (first | exact Drawn0.refl _ | apply Drawn0.step)⟩
end Go.Proofs.Ytedodaifpekahaa.P

end
section

namespace Go.Proofs.Ytedodaifpekahaa.P
open Go.RowKit Go.Proofs.YtedodaifpekahaaW.PrintWords Go.Proofs.YtedodaifpekahaaW.PrintLast Go.Proofs.YtedodaifpekahaaW.PrintMore
attribute [local go_sem] max2_int min2_int max_two min_two max_three min_three max_four min_four
set_option linter.unusedVariables false
set_option linter.unusedSimpArgs false
def spec_l2Fields.T3 : Bool × List (List Nat × List Nat) := (true, [([], []), ([], []), ([], []), ([1, 2], [1, 2]), ([3], [3]), ([4], [4]), ([0, 5], [0, 5]), ([], []), ([], []), ([7, 8], [7, 8]), ([9], [9]), ([10], [10]), ([6, 11, 6], [6, 11]), ([12, 12, 0, 1, 2, 3, 4, 5, 6, 7, 8, 9, 10, 11, 12], [12])])
def spec_l2Fields.B3 : List Nat := [0, 0, 0, 6, 14, 30, 63, 0, 0, 384, 896, 1920, 4095, 8191]
theorem spec_l2Fields.tab3 : rtab .any (opsOf Try.f56 3) = spec_l2Fields.T3 := by kernel_rfl
theorem spec_l2Fields.bits3 : waitsOk spec_l2Fields.T3.2 spec_l2Fields.B3 = true := by kernel_rfl
set_option maxHeartbeats 8000000 in
set_option maxRecDepth 100000 in
theorem spec_l2Fields.calls (k : Nat) : ∀ (A0 : Option Addr) (c0 : Nat) (l0 : List (S76)) (a1 : Int) (r : List Int) (w : World) (hr0 : Kd.C k76 w A0 l0.length l0) (hc0 : l0.length ≤ c0) (h : spec_l2Fields.f k l0 a1 = some r),
  Calls Try.prog 56 #[.slice A0 l0.length c0, .int .i64 a1] w fun e w' => ∃ v0_ : Value, e = .returned (v0_) ∧ Kd.R (Kd.int .i64) 3 w' w.heap.size (fun _ => True) v0_ r ∧ Below w.heap.size w w' := by
 induction k using Nat.strongRecOn with
 | _ k ih =>
 intro A0 c0 l0 a1 r w hr0 hc0 h
 cases k with
 | zero => exact absurd h (by simp [spec_l2Fields.f])
 | succ k =>
 simp only [spec_l2Fields.f] at h
 have HR0 := Aside0.mk hr0
 have HC0 := Aside0.mk hc0
 clear hr0 hc0
 have HB := Aside0.mk (Below.refl w.heap.size w)
 have H : (if a1 = 0 then (some (([] : List Int))) else (if 0 ≤ a1 then (if a1 < (l0.length : Int) then ((spec_l2Fields.f k l0 ((rd_T76 l0 a1).f0)).bind fun t142 => (if t142.length + ((rd_T76 l0 a1).f1).length < 17592186044416 then (some (t142 ++ ((rd_T76 l0 a1).f1))) else (none))) else (none)) else (none))) = some r := h
 clear h
 by_cases c3 : a1 = 0
 ·rw [if_pos c3] at H
  have c3b0 := beq_iff_eq.mpr c3
  have c3b1 := bne_eq_false_iff_eq.mpr c3
  clear c3
  obtain ⟨y138, hy138⟩ : ∃ y_ : List Int, y_ = (([] : List Int)) := ⟨_, rfl⟩
  replace H : (some y138) = some r := by first | (rw [hy138]; with_reducible exact H) | (have H2_ := (Option.bind_some _ _).symm.trans H; rw [hy138]; with_reducible exact H2_) | (have H2_ := (Option.bind_some _ _).symm.trans H; with_reducible exact H2_) | with_reducible exact H | (rw [hy138]; exact H) | exact H
  have Ny138 := Aside0.mk hy138
  clear hy138
  obtain rfl := Option.some.inj H; clear H
  go_enter Try.func56, Try.ntmps56
  go_wp2_with (first | ((with_reducible refine gd 7 rfl ?_); refine Kd.R_lit (Kd.int .i64) _ 3 ?hg (N := 7) ?hd (xs := ([] : List Int)) (inner := []) (ok := fun _ => True) (okp := fun _ => True) ?hr ?hp (fun _ hk => hk) trivial (Below.refl _ _) (Nat.le_refl _) (by simp) ?_; (case hd => rfl); (case hg => rfl); (case hr => first | (go_simp; done) | (go_simp; rfl)); (case hp => exact (Reps.none _ _)); intro v139 w4 ho5 hb hg_ hnew_; clear hg_ hnew_; (first | rw [← Ny138.out] at ho5 | (simp only [Int.reduceToNat] at ho5; rw [← Ny138.out] at ho5)); have HO140 := Aside0.mk (Kd.R_lower ho5 (below_size bl)); replace HB := hs HB hb; clear hb ho5))
  go_ret
  exact ⟨_, by first | rfl | (simp [errW_none, errW_some] <;> rfl) | (simp [*, errW_none, errW_some] <;> rfl), by (with_reducible repeat (first | apply Kd.R_alloc | apply Kd.R_drewN | apply Kd.R_drew)); exact HO140.out, bl⟩
 ·rw [if_neg c3] at H
  have c3b0 := beq_eq_false_iff_ne.mpr c3
  have c3b1 := bne_iff_ne.mpr c3
  by_cases c6 : 0 ≤ a1
  ·rw [if_pos c6] at H
   have c6b0 : decide (0 ≤ a1) = true := decide_eq_true c6
   clear c6
   by_cases c7 : a1 < (l0.length : Int)
   ·rw [if_pos c7] at H
    have c7b0 : decide (a1 < (l0.length : Int)) = true := decide_eq_true c7
    clear c7
    obtain ⟨t142, A8, H⟩ := ob H
    by_cases c9 : t142.length + ((rd_T76 l0 a1).f1).length < 17592186044416
    ·rw [if_pos c9] at H
     have LMc9 := Aside0.mk c9
     clear c9
     obtain ⟨y146, hy146⟩ : ∃ y_ : List Int, y_ = (t142 ++ ((rd_T76 l0 a1).f1)) := ⟨_, rfl⟩
     replace H : (some y146) = some r := by first | (rw [hy146]; with_reducible exact H) | (have H2_ := (Option.bind_some _ _).symm.trans H; rw [hy146]; with_reducible exact H2_) | (have H2_ := (Option.bind_some _ _).symm.trans H; with_reducible exact H2_) | with_reducible exact H | (rw [hy146]; exact H) | exact H
     have Ny146 := Aside0.mk hy146
     clear hy146
     obtain rfl := Option.some.inj H; clear H
     go_enter Try.func56, Try.ntmps56
     try go_wp2
     replace HB := Aside0.mk (below_drew1 HB.out)
     have p141 : 0 ≤ (a1 : Int) := od
     have q141 : a1 < (l0.length : Int) := od
     obtain ⟨ad141, A141_1, c141_1, e141, hx141_0, hx141_1, hl141_1, hi141_1⟩ := at_T76 HR0.out a1 p141 q141
     have hw141_1 := hx141_1
     have hw141_0 := hx141_0
     cases e141
     obtain ⟨hx141_0,hx141_1⟩ := hc2 HB hx141_0 hx141_1
     have HR141_1 := Aside0.mk hi141_1
     have HC141_1 := Aside0.mk hl141_1
     clear hi141_1 hl141_1
     replace p141 := eq_true p141
     replace q141 := eq_true q141
     have p145 : 0 ≤ (a1 : Int) := od
     have q145 : a1 < (l0.length : Int) := od
     obtain ⟨ad145, A145_1, c145_1, e145, hx145_0, hx145_1, hl145_1, hi145_1⟩ := at_T76 HR0.out a1 p145 q145
     have hw145_1 := hx145_1
     have hw145_0 := hx145_0
     obtain rfl : ad141 = ad145 := (by injection e145)
     obtain ⟨hx145_0,hx145_1⟩ := hc2 HB hx145_0 hx145_1
     have HR145_1 := Aside0.mk hi145_1
     have HC145_1 := Aside0.mk hl145_1
     clear hi145_1 hl145_1
     replace p145 := eq_true p145
     replace q145 := eq_true q145
     have ea_ := Option.some.inj (hx141_1.symm.trans hx145_1)
     injection ea_ with ea_ en_ ec_
     subst ea_
     subst ec_
     clear en_
     refine start_ (n := 14) (S := fun w' => w'.cell? (ad141.add ((a1).toNat * 2)) = some (.int .i64 ((rd_T76 l0 a1).f0)) ∧ w'.cell? ⟨(ad141.add ((a1).toNat * 2)).block, (ad141.add ((a1).toNat * 2)).off + 1, none⟩ = some (.slice A141_1 ((rd_T76 l0 a1).f1).length c141_1) ∧ w'.cell? (ad141.add ((a1).toNat * 2)) = some (.int .i64 ((rd_T76 l0 a1).f0)) ∧ w'.cell? ⟨(ad141.add ((a1).toNat * 2)).block, (ad141.add ((a1).toNat * 2)).off + 1, none⟩ = some (.slice A141_1 ((rd_T76 l0 a1).f1).length c141_1)) (ds := []) #[false, false, false, false, false, false, false, false, false, false, false, false, false, false] (by kernel_rfl) rfl rfl ⟨((HB.out.cell (World.block_lt_of_cell? w _ hw141_0)).trans hw141_0), ((HB.out.cell (World.block_lt_of_cell? w _ hw141_1)).trans hw141_1), ((HB.out.cell (World.block_lt_of_cell? w _ hw145_0)).trans hw145_0), ((HB.out.cell (World.block_lt_of_cell? w _ hw145_1)).trans hw145_1)⟩ (fun hHeld => ?_); refine with_tabW spec_l2Fields.tab3 spec_l2Fields.bits3 (fun HT_ HW_ => ?_)
     generalize w.drew = w10 at HB HR141_1 HR145_1 hx141_0 hx141_1 hx145_0 hx145_1 hHeld ⊢
     refine pu 0 8 #[true, false, false, false, false, false, false, false, false, false, false, false, false, false] HT_ rfl rfl ?_
     refine pu 1 9 #[true, true, false, false, false, false, false, false, false, false, false, false, false, false] HT_ rfl rfl ?_
     refine pu 2 10 #[true, true, true, false, false, false, false, false, false, false, false, false, false, false] HT_ rfl rfl ?_
     refine pu 3 11 #[true, true, true, true, false, false, false, false, false, false, false, false, false, false] HT_ rfl rfl ?_
     refine pu 4 12 #[true, true, true, true, true, false, false, false, false, false, false, false, false, false] HT_ rfl rfl ?_
     refine pu 7 15 #[true, true, true, true, true, false, false, true, false, false, false, false, false, false] HT_ rfl rfl ?_
     refine pu 8 16 #[true, true, true, true, true, false, false, true, true, false, false, false, false, false] HT_ rfl rfl ?_
     refine pu 9 17 #[true, true, true, true, true, false, false, true, true, true, false, false, false, false] HT_ rfl rfl ?_
     refine pu 10 18 #[true, true, true, true, true, false, false, true, true, true, true, false, false, false] HT_ rfl rfl ?_
     refine ta 5 13 #[true, true, true, true, true, true, false, true, true, true, true, false, false, false] HT_ HW_ hHeld rfl rfl ?_
     refine ta 11 19 #[true, true, true, true, true, true, false, true, true, true, true, true, false, false] HT_ HW_ hHeld rfl rfl ?_
     refine one_ (i := 6) (N := some 14) #[true, true, true, true, true, true, true, true, true, true, true, true, false, false] rfl rfl (one_of HT_.out (by kernel_rfl)) (by decide) (fun K hK => ?_)
     refine gs Try.func56 #[.slice (some ad141) l0.length c0, .int .i64 ((rd_T76 l0 a1).f0)] rfl rfl ?_
     with_reducible refine (ih k (by omega) _ _ l0 ((rd_T76 l0 a1).f0) t142 _ ?side1 ?side2 A8.out).mono ?_
     (case side1 => exact cb HR0.out)
     (case side2 => exact HC0.out)
     rintro e w11 ⟨v143, rfl, ho0, hb⟩
     refine ⟨_, rfl, ?_⟩
     have HO144 := Aside0.mk (Kd.R_lower ho0 (below_size bl))
     replace HB := hs HB hb
     (try clear hb)
     (try clear hb2)
     (try clear hk)
     (try clear hi)
     (try clear ho0)
     refine hK.out _ _ ⟨((HB.out.cell (World.block_lt_of_cell? w _ hw141_0)).trans hw141_0), ((HB.out.cell (World.block_lt_of_cell? w _ hw141_1)).trans hw141_1), ((HB.out.cell (World.block_lt_of_cell? w _ hw145_0)).trans hw145_0), ((HB.out.cell (World.block_lt_of_cell? w _ hw145_1)).trans hw145_1)⟩ (fun hHeld => ?_)
     clear hK K
     refine no 14 ?_
     refine one_ (i := 12) (N := some 20) #[true, true, true, true, true, true, true, true, true, true, true, true, true, false] rfl rfl (one_of HT_.out (by kernel_rfl)) (by decide) (fun K hK => ?_)
     refine Kd.R_append_rows_step (Kd.int .i64) (w0 := w) w.heap.size (by rfl) (.tmp 14) (.tmp 19) 41 3 (.int .i64 0) 8 rfl Try.underlying41 info3 rfl (by decide) (by omega) v143 t142 ((rd_T76 l0 a1).f1) _ _ _ (fun _ => True) (fun _ => False) rfl rfl ?aO ?aR (fun _ _ h => h) (fun _ h => h.elim) ?aF ?aB ?aS ?aL ?_
     (case aR => repeat (first | exact (Kd.C_below HR145_1.out HB.out) | (with_reducible refine Kd.C_alloc ?_ _) | (with_reducible refine Kd.C_drewN ?_ _) | (with_reducible refine Kd.C_drew ?_)))
     (case aB => exact bl)
     (case aF => exact (fun _ _ => trivial))
     (case aO => exact (by (with_reducible repeat (first | apply Kd.R_alloc | apply Kd.R_drewN | apply Kd.R_drew)); exact HO144.out))
     (case aS => exact (below_size bl))
     (case aL => have := LMc9.out; omega)
     intro v147 w12 ho hb hg hat
     rw [← Ny146.out] at ho
     have n0_ := Aside0.mk (hb)
     have n1_ := Aside0.mk (ho)
     clear HB
     clear HO144
     have HB := n0_
     have HO148 := n1_
     clear n0_ n1_
     clear ho hb hg hat
     refine hK.out _ _ ⟨((HB.out.cell (World.block_lt_of_cell? w _ hw141_0)).trans hw141_0), ((HB.out.cell (World.block_lt_of_cell? w _ hw141_1)).trans hw141_1), ((HB.out.cell (World.block_lt_of_cell? w _ hw145_0)).trans hw145_0), ((HB.out.cell (World.block_lt_of_cell? w _ hw145_1)).trans hw145_1)⟩ (fun hHeld => ?_)
     clear hK K
     refine no 20 ?_
     refine pu 13 4 #[true, true, true, true, true, true, true, true, true, true, true, true, true, true] HT_ rfl rfl ?_
     refine done_ (done_of HT_.out (by kernel_rfl)) ?_
     try go_wp2
     go_ret
     exact ⟨_, by first | rfl | (simp [errW_none, errW_some] <;> rfl) | (simp [*, errW_none, errW_some] <;> rfl), by (with_reducible repeat (first | apply Kd.R_alloc | apply Kd.R_drewN | apply Kd.R_drew)); exact HO148.out, bl⟩
    ·rw [if_neg c9] at H
     exact absurd H (by simp)
   ·rw [if_neg c7] at H
    exact absurd H (by simp)
  ·rw [if_neg c6] at H
   exact absurd H (by simp)
end Go.Proofs.Ytedodaifpekahaa.P

end
