/- FnShapeOk: a drawn shape that is one tells of as many locals as there are, of no none on the stack, and the shape that is none is one too. -/
import Derived.Test.YtgmjolngnhdafaaCFnShapeOk22
import Derived.Test.YtgmjolngnhdafaaCFnShapeOk23
import Derived.Test.YtgmjolngnhdafaaCFnShapeOk24
import Derived.Test.YtgmjolngnhdafaaCFnShapeOk20
import Derived.Test.YtgmjolngnhdafaaRows
import Derived.WalkKit
import Derived.ProofKit
import Derived.OpenShut
import Derived.ShutString
import Derived.ChangeOld
import Derived.Below
import Derived.SizedLaws
import Derived.Test.YtgmjolngnhdafaaCFnShapeOk21
import Derived.Test.YtgmjolngnhdafaaCFnShapeOk0
import Derived.Test.YtgmjolngnhdafaaCFnShapeOk1
import Derived.Test.YtgmjolngnhdafaaCFnShapeOk2
import Derived.Test.YtgmjolngnhdafaaCFnShapeOk3
import Derived.Test.YtgmjolngnhdafaaCFnShapeOk4
import Derived.Test.YtgmjolngnhdafaaCFnShapeOk5
import Derived.Test.YtgmjolngnhdafaaCFnShapeOk6
import Derived.Test.YtgmjolngnhdafaaCFnShapeOk7
import Derived.Test.YtgmjolngnhdafaaCFnShapeOk8
import Derived.Test.YtgmjolngnhdafaaCFnShapeOk9
import Derived.Test.YtgmjolngnhdafaaCFnShapeOk10
import Derived.Test.YtgmjolngnhdafaaCFnShapeOk11
import Derived.Test.YtgmjolngnhdafaaCFnShapeOk12
import Derived.Test.YtgmjolngnhdafaaCFnShapeOk13
import Derived.Test.YtgmjolngnhdafaaCFnShapeOk14
import Derived.Test.YtgmjolngnhdafaaCFnShapeOk15
import Derived.Test.YtgmjolngnhdafaaCFnShapeOk16
import Derived.Test.YtgmjolngnhdafaaCFnShapeOk17
import Derived.Test.YtgmjolngnhdafaaCFnShapeOk18
import Derived.Test.YtgmjolngnhdafaaCFnShapeOk19
section

namespace Go.Proofs.Ytgmjolngnhdafaa.P
open Go.RowKit Go.Proofs.YtgmjolngnhdafaaW.PrintWords Go.Proofs.YtgmjolngnhdafaaW.PrintLast Go.Proofs.YtgmjolngnhdafaaW.PrintMore
attribute [local go_sem] max2_int min2_int max_two min_two max_three min_three max_four min_four
set_option linter.unusedVariables false
set_option linter.unusedSimpArgs false
set_option maxHeartbeats 8000000 in
set_option maxRecDepth 100000 in
theorem spec_DrawShapeOk.calls (k : Nat) (A0 : Option Addr) (c0 : Nat) (l0 : List Int) (r1 : List (S38)) (r2 : Int) (r3 : Bool) (r4 : List Int) (r5 : List Int) (w : World) (hr0 : Kd.C (Kd.int .u8) w A0 l0.length l0) (hc0 : l0.length ≤ c0) (h : spec_DrawShapeOk.f k l0 = some (r1, r2, r3, r4, r5)) :
    Calls Try.prog 50 #[.slice A0 l0.length c0] w fun e w' => ∃ v0_ v3_ v4_ : Value, e = .returned (.tuple #[v0_, .int .i64 r2, .agg #[.bool r3, v3_, v4_]]) ∧ Kd.N k38 38 w' w.heap.size (fun k_ => (w.heap.size ≤ k_) ∧ some k_ ≠ (v3_ : Value).ownBlock ∧ some k_ ≠ (v4_ : Value).ownBlock) v0_ r1 ∧ Kd.R (Kd.int .i64) 3 w' w.heap.size (fun k_ => (w.heap.size ≤ k_) ∧ some k_ ≠ (v4_ : Value).ownBlock) v3_ r4 ∧ Kd.R (Kd.int .i64) 3 w' w.heap.size (fun k_ => (w.heap.size ≤ k_) ∧ some k_ ≠ (v3_ : Value).ownBlock) v4_ r5 ∧ Below w.heap.size w w' := by
  have hu52 := Try.underlying52
  have HR0 := Aside0.mk hr0
  have HC0 := Aside0.mk hc0
  clear hr0 hc0
  have HB := Aside0.mk (Below.refl w.heap.size w)
  have H : ((spec_l6Open.f l0).bind fun bt629 => ((spec_l71Off.f k bt629.1 bt629.2).bind fun bt632 => ((spec_l6Rd_pick.f k bt629.1 bt632.2 4).bind fun bt636 => ((spec_l72Shape.f k bt629.1 bt636.2 (bt632.1.length : Int) bt636.1).bind fun bt638 => (some (bt632.1, bt636.1, bt638.1, bt638.2.1, bt638.2.2.1)))))) = some (r1, r2, r3, r4, r5) := h
  clear h
  replace H := Option.bind_eq_some_iff.mp H
  obtain ⟨⟨t629, t630⟩, A20, H⟩ := H
  replace H : ((spec_l71Off.f k t629 t630).bind fun bt632 => ((spec_l6Rd_pick.f k t629 bt632.2 4).bind fun bt636 => ((spec_l72Shape.f k t629 bt636.2 (bt632.1.length : Int) bt636.1).bind fun bt638 => (some (bt632.1, bt636.1, bt638.1, bt638.2.1, bt638.2.2.1))))) = some (r1, r2, r3, r4, r5) := H
  have A2 := Aside0.mk A20
  clear A20
  replace H := Option.bind_eq_some_iff.mp H
  obtain ⟨⟨t632, t635⟩, A30, H⟩ := H
  replace H : ((spec_l6Rd_pick.f k t629 t635 4).bind fun bt636 => ((spec_l72Shape.f k t629 bt636.2 (t632.length : Int) bt636.1).bind fun bt638 => (some (t632, bt636.1, bt638.1, bt638.2.1, bt638.2.2.1)))) = some (r1, r2, r3, r4, r5) := H
  have A3 := Aside0.mk A30
  clear A30
  replace H := Option.bind_eq_some_iff.mp H
  obtain ⟨⟨t636, t637⟩, A40, H⟩ := H
  replace H : ((spec_l72Shape.f k t629 t637 (t632.length : Int) t636).bind fun bt638 => (some (t632, t636, bt638.1, bt638.2.1, bt638.2.2.1))) = some (r1, r2, r3, r4, r5) := H
  have A4 := Aside0.mk A40
  clear A40
  replace H := Option.bind_eq_some_iff.mp H
  obtain ⟨⟨t638, t639, t642, t645⟩, A50, H⟩ := H
  replace H : (some (t632, t636, t638, t639, t642)) = some (r1, r2, r3, r4, r5) := H
  have A5 := Aside0.mk A50
  clear A50
  simp only [Option.some.injEq, Prod.mk.injEq] at H
  obtain ⟨rfl, rfl, rfl, rfl, rfl⟩ := H
  go_enter Try.func50, Try.ntmps50
  go_wp2_with (first | ((with_reducible refine gate_dst (N := 4) rfl ?_); refine box_event ?hg (N := 4) ?hd (cs := #[.bool false, .slice none 0 0, .slice none 0 0]) (t := 52) ?hr ?_; (case hd => rfl); (case hg => rfl); (case hr => first | (go_simp; done) | (go_simp; rfl)); intro gb628 hg w6 hbox hb; have n0_ := Aside0.mk (below_step (by repeat (first | (with_reducible first | exact HB.out | apply below_alloc | apply pw_below_drewN | apply below_drew1) | exact HB.out)) hb); have n1_ := Aside0.mk (hbox); have n2_ := Aside0.mk ((by rw [hg]; exact (below_size (by repeat (first | (with_reducible first | exact HB.out | apply below_alloc | apply pw_below_drewN | apply below_drew1) | exact HB.out))) : w.heap.size ≤ gb628)); have n3_ := Aside0.mk ((by rw [hg]; exact (below_size (by repeat (first | (with_reducible first | exact HB.out | apply below_alloc | apply pw_below_drewN | apply below_drew1) | exact HB.out))) : w.heap.size ≤ gb628)); clear HB; have HB := n0_; have BK628 := n1_; have GW628 := n2_; have GE628 := n3_; clear n0_ n1_ n2_ n3_; clear hb hbox hg) | ((with_reducible refine gate_callee (f := 63) rfl ?_); refine goesL_ (some 9) rfl rfl Try.func63 (by kernel_rfl) rfl #[.slice A0 l0.length c0] rfl (by (try simp only [List.map_toArray, List.map_cons, List.map_nil]); first | done | rfl | (simp only [List.length_drop, List.length_take]; rfl)) ?_; (with_reducible refine (spec_l6Open.calls _ _ l0 t629 t630 w _ ?side1 ?side2 ?side3 A2.out).mono ?_); (case side1 => repeat (first | (with_reducible first | exact HB.out | apply below_alloc | apply pw_below_drewN | apply below_drew1 | refine below_set ?_ GE628.out) | exact HB.out)); (case side2 => exact HR0.out); (case side3 => exact HC0.out); rintro e w7 ⟨g631, rfl, hi, hb, hb2⟩; refine ⟨_, rfl, ?_⟩; have n0_ := Aside0.mk (blk_below (g := gb628) (o := .cells #[.bool false, .slice none 0 0, .slice none 0 0] 52 (0, 0)) (by (with_reducible repeat (first | refine blk_drewN ?_ _ | refine blk_drew ?_ | refine blk_alloc ?_ _)); exact BK628.out) hb2); have n1_ := Aside0.mk (hb); have n2_ := Aside0.mk (hi); have n3_ := Aside0.mk (IsS92.ne_blk hi (blk_below (g := gb628) (o := .cells #[.bool false, .slice none 0 0, .slice none 0 0] 52 (0, 0)) (by (with_reducible repeat (first | refine blk_drewN ?_ _ | refine blk_drew ?_ | refine blk_alloc ?_ _)); exact BK628.out) hb2) (by decide)); have n4_ := Aside0.mk (Ne.symm (IsS92.ne_blk hi (blk_below (g := gb628) (o := .cells #[.bool false, .slice none 0 0, .slice none 0 0] 52 (0, 0)) (by (with_reducible repeat (first | refine blk_drewN ?_ _ | refine blk_drew ?_ | refine blk_alloc ?_ _)); exact BK628.out) hb2) (by decide))); clear BK628; clear HB; have BK628 := n0_; have HB := n1_; have HI631 := n2_; have NB631_628 := n3_; have NB628_631 := n4_; clear n0_ n1_ n2_ n3_ n4_; (try clear hb); (try clear hb2); (try clear hk); (try clear hi)) | ((with_reducible refine gate_callee (f := 64) rfl ?_); refine goesL_ (some 11) rfl rfl Try.func64 (by kernel_rfl) rfl #[.pointer (some ⟨g631, 0, none⟩)] rfl (by (try simp only [List.map_toArray, List.map_cons, List.map_nil]); first | done | rfl | (simp only [List.length_drop, List.length_take]; rfl)) ?_; (with_reducible refine (spec_l71Off.calls k g631 t629 t630 t632 t635 w _ ?side1 ?side2 A3.out).mono ?_); (case side1 => repeat (first | (with_reducible first | exact HI631.out | apply IsS92.alloc | apply IsS92.drewN | apply IsS92.drew | apply IsS92.set_1 | refine IsS92.far ?_ NB631_628.out _) | exact HI631.out)); (case side2 => repeat (first | (with_reducible first | exact HB.out | apply below_alloc | apply pw_below_drewN | apply below_drew1 | refine below_set ?_ (IsS92.ge HI631.out) | refine below_set ?_ GE628.out) | exact HB.out)); rintro e w8 ⟨v633, rfl, ho0, hi, hb, hk⟩; refine ⟨_, rfl, ?_⟩; have n0_ := Aside0.mk (KeepBut.blk hk (g' := gb628) (o := .cells #[.bool false, .slice none 0 0, .slice none 0 0] 52 (0, 0)) (by (with_reducible repeat (first | refine blk_drewN ?_ _ | refine blk_drew ?_ | refine blk_alloc ?_ _)); exact BK628.out) NB628_631.out (by simp)); have n1_ := Aside0.mk (Kd.N_lower (Kd.N_mono (ok' := fun k_ => (w.heap.size ≤ k_) ∧ k_ ≠ gb628 ∧ k_ ≠ g631) ho0 (fun k_ hk_ => ⟨(Nat.le_trans (below_size (by repeat (first | (with_reducible first | exact HB.out | apply below_alloc | apply pw_below_drewN | apply below_drew1 | refine below_set ?_ (IsS92.ge HI631.out) | refine below_set ?_ GE628.out) | exact HB.out))) hk_), (Kd.freshB (g := gb628) (o := .cells #[.bool false, .slice none 0 0, .slice none 0 0] 52 (0, 0)) (by (with_reducible repeat (first | refine blk_drewN ?_ _ | refine blk_drew ?_ | refine blk_alloc ?_ _)); exact BK628.out) k_ hk_), (IsS92.fresh (by repeat (first | (with_reducible first | exact HI631.out | apply IsS92.alloc | apply IsS92.drewN | apply IsS92.drew | apply IsS92.set_1 | refine IsS92.far ?_ NB631_628.out _) | exact HI631.out)) k_ hk_)⟩)) (below_size (by repeat (first | (with_reducible first | exact HB.out | apply below_alloc | apply pw_below_drewN | apply below_drew1 | refine below_set ?_ (IsS92.ge HI631.out) | refine below_set ?_ GE628.out) | exact HB.out)))); have n2_ := Aside0.mk (hb); have n3_ := Aside0.mk (hi); clear BK628; clear HB; clear HI631; have BK628 := n0_; have HO634 := n1_; have HB := n2_; have HI631 := n3_; clear n0_ n1_ n2_ n3_; (try clear hb); (try clear hb2); (try clear hk); (try clear hi); (try clear ho0)) | ((with_reducible refine gate_callee (f := 65) rfl ?_); refine goesL_ (some 13) rfl rfl Try.func65 (by kernel_rfl) rfl #[.pointer (some ⟨g631, 0, none⟩), .int .i64 4] rfl (by (try simp only [List.map_toArray, List.map_cons, List.map_nil]); first | done | rfl | (simp only [List.length_drop, List.length_take]; rfl)) ?_; (with_reducible refine (spec_l6Rd_pick.calls k g631 t629 t635 4 t636 t637 w _ ?side1 ?side2 A4.out).mono ?_); (case side1 => repeat (first | (with_reducible first | exact HI631.out | apply IsS92.alloc | apply IsS92.drewN | apply IsS92.drew | apply IsS92.set_1 | refine IsS92.far ?_ NB631_628.out _) | exact HI631.out)); (case side2 => repeat (first | (with_reducible first | exact HB.out | apply below_alloc | apply pw_below_drewN | apply below_drew1 | refine below_set ?_ (IsS92.ge HI631.out) | refine below_set ?_ GE628.out) | exact HB.out)); rintro e w9 ⟨rfl, hi, hb, hk⟩; refine ⟨_, rfl, ?_⟩; have n0_ := Aside0.mk (KeepBut.blk hk (g' := gb628) (o := .cells #[.bool false, .slice none 0 0, .slice none 0 0] 52 (0, 0)) (by (with_reducible repeat (first | refine blk_drewN ?_ _ | refine blk_drew ?_ | refine blk_alloc ?_ _)); exact BK628.out) NB628_631.out (by simp)); have n1_ := Aside0.mk (Kd.N_mono (Kd.N_keep (Kd.N_mono (ok := fun k_ => (((w.heap.size ≤ k_)) ∧ (k_ ≠ gb628 ∧ k_ ≠ g631))) (by (with_reducible repeat (first | apply Kd.N_alloc | apply Kd.N_drewN | apply Kd.N_drew)); exact HO634.out) (fun k_ hk_ => (⟨hk_, hk_.2.2⟩ : _ ∧ k_ ≠ g631))) hk (fun _ h => h.2)) (fun _ h => h.1)); have n2_ := Aside0.mk (hb); have n3_ := Aside0.mk (hi); clear BK628; clear HO634; clear HB; clear HI631; have BK628 := n0_; have HO634 := n1_; have HB := n2_; have HI631 := n3_; clear n0_ n1_ n2_ n3_; (try clear hb); (try clear hb2); (try clear hk); (try clear hi); obtain ⟨Ao10, co10, eo10⟩ := Kd.N_slice HO634.out; subst eo10) | ((with_reducible refine gate_callee (f := 82) rfl ?_); refine goesL_ (some 20) rfl rfl Try.func82 (by kernel_rfl) rfl #[.pointer (some ⟨g631, 0, none⟩), .int .i64 (t632.length : Int), .int .i64 t636] rfl (by (try simp only [List.map_toArray, List.map_cons, List.map_nil]); first | done | rfl | (simp only [List.length_drop, List.length_take]; rfl)) ?_; (with_reducible refine (spec_l72Shape.calls k g631 t629 t637 (t632.length : Int) t636 t638 t639 t642 t645 w _ ?side1 ?side2 A5.out).mono ?_); (case side1 => repeat (first | (with_reducible first | exact HI631.out | apply IsS92.alloc | apply IsS92.drewN | apply IsS92.drew | apply IsS92.set_1 | refine IsS92.far ?_ NB631_628.out _) | exact HI631.out)); (case side2 => repeat (first | (with_reducible first | exact HB.out | apply below_alloc | apply pw_below_drewN | apply below_drew1 | refine below_set ?_ (IsS92.ge HI631.out) | refine below_set ?_ GE628.out) | exact HB.out)); rintro e w11 ⟨v640, v643, rfl, ho0, ho1, hi, hb, hk⟩; refine ⟨_, rfl, ?_⟩; have n0_ := Aside0.mk (KeepBut.blk hk (g' := gb628) (o := .cells #[.bool false, .slice none 0 0, .slice none 0 0] 52 (0, 0)) (by (with_reducible repeat (first | refine blk_drewN ?_ _ | refine blk_drew ?_ | refine blk_alloc ?_ _)); exact BK628.out) NB628_631.out (by simp)); have n1_ := Aside0.mk (Kd.N_mono (Kd.N_told (Kd.N_told (Kd.N_oldK (Kd.N_mono (ok := fun k_ => (((w.heap.size ≤ k_)) ∧ (k_ ≠ gb628 ∧ k_ ≠ g631))) (by (with_reducible repeat (first | apply Kd.N_alloc | apply Kd.N_drewN | apply Kd.N_drew)); exact HO634.out) (fun k_ hk_ => (⟨hk_, hk_.2.2⟩ : _ ∧ k_ ≠ g631))) hk) (Kd.R_base ho0)) (Kd.R_base ho1)) (fun _ h_ => h_.1)); have n2_ := Aside0.mk (Kd.R_lower (Kd.R_newM (M := fun k_ => (w.heap.size ≤ k_)) ho0 (below_size (by repeat (first | (with_reducible first | exact HB.out | apply below_alloc | apply pw_below_drewN | apply below_drew1 | refine below_set ?_ (IsS92.ge HI631.out) | refine below_set ?_ GE628.out) | exact HB.out))) (fun k_ h_ => h_)) (below_size (by repeat (first | (with_reducible first | exact HB.out | apply below_alloc | apply pw_below_drewN | apply below_drew1 | refine below_set ?_ (IsS92.ge HI631.out) | refine below_set ?_ GE628.out) | exact HB.out)))); have n3_ := Aside0.mk (Kd.R_lower (Kd.R_newM (M := fun k_ => (w.heap.size ≤ k_)) ho1 (below_size (by repeat (first | (with_reducible first | exact HB.out | apply below_alloc | apply pw_below_drewN | apply below_drew1 | refine below_set ?_ (IsS92.ge HI631.out) | refine below_set ?_ GE628.out) | exact HB.out))) (fun k_ h_ => h_)) (below_size (by repeat (first | (with_reducible first | exact HB.out | apply below_alloc | apply pw_below_drewN | apply below_drew1 | refine below_set ?_ (IsS92.ge HI631.out) | refine below_set ?_ GE628.out) | exact HB.out)))); have n4_ := Aside0.mk (hb); have n5_ := Aside0.mk (hi); clear BK628; clear HO634; clear HB; clear HI631; have BK628 := n0_; have HO634 := n1_; have HO641 := n2_; have HO644 := n3_; have HB := n4_; have HI631 := n5_; clear n0_ n1_ n2_ n3_ n4_ n5_; (try clear hb); (try clear hb2); (try clear hk); (try clear hi); (try clear ho0); (try clear ho1); have hnb12 := NB628_631.out; have hnc12 := NB631_628.out; have hcz13_0 : w11.cell? ⟨gb628, 0, none⟩ = some (.bool false) := (blk_cell BK628.out 0).trans rfl; have hcz13_1 : w11.cell? ⟨gb628, 1, none⟩ = some (.slice none 0 0) := (blk_cell BK628.out 1).trans rfl; have hcz13_2 : w11.cell? ⟨gb628, 2, none⟩ = some (.slice none 0 0) := (blk_cell BK628.out 2).trans rfl; have hfz13_0 := blk_frozen BK628.out 0; have hfz13_1 := blk_frozen BK628.out 1; have hfz13_2 := blk_frozen BK628.out 2; obtain ⟨Ao14, co14, eo14⟩ := Kd.R_slice HO641.out; subst eo14; obtain ⟨Ao15, co15, eo15⟩ := Kd.R_slice HO644.out; subst eo15))
  refine bodyPost_ret (results_list (rs := [.tmp 2, .tmp 3, .cell 4 52]) rfl (by simp) (.tmp (.tmp (.cell gb628 52 #[.bool t638, .slice Ao14 t639.length co14, .slice Ao15 t642.length co15] (0, 0) _ rfl (by (with_reducible repeat (first | refine blk_drewN ?_ _ | refine blk_drew ?_ | refine blk_alloc ?_ _)); refine blk_put (cs := #[.bool t638, .slice Ao14 t639.length co14, .slice none 0 0]) ?_ 2 _ rfl; (with_reducible repeat (first | refine blk_drewN ?_ _ | refine blk_drew ?_ | refine blk_alloc ?_ _)); refine blk_put (cs := #[.bool t638, .slice none 0 0, .slice none 0 0]) ?_ 1 _ rfl; (with_reducible repeat (first | refine blk_drewN ?_ _ | refine blk_drew ?_ | refine blk_alloc ?_ _)); refine blk_put (cs := #[.bool false, .slice none 0 0, .slice none 0 0]) ?_ 0 _ rfl; (with_reducible repeat (first | refine blk_drewN ?_ _ | refine blk_drew ?_ | refine blk_alloc ?_ _)); exact BK628.out) Try.underlying52 rfl (by kernel_rfl) .nil)))) rfl ?_
  exact ⟨_, _, _, by first | rfl | (simp [errW_none, errW_some] <;> rfl) | (simp [*, errW_none, errW_some] <;> rfl), by (with_reducible repeat (first | apply Kd.N_alloc | apply Kd.N_drewN | apply Kd.N_drew)); exact Kd.N_mono (Kd.N_far (p := ⟨gb628, 2, none⟩) (Kd.N_far (p := ⟨gb628, 1, none⟩) (Kd.N_far (p := ⟨gb628, 0, none⟩) (Kd.N_mono HO634.out (fun k_ hk => (⟨hk, hk.1.1.2.1⟩ : _ ∧ k_ ≠ gb628))) (fun _ hk => hk.2) (.bool t638)) (fun _ hk => hk.2) (.slice Ao14 t639.length co14)) (fun _ hk => hk.2) (.slice Ao15 t642.length co15)) (fun _ hk => ⟨hk.1.1.1.1, ⟨hk.1.1.2, hk.1.2⟩⟩), by (with_reducible repeat (first | apply Kd.R_alloc | apply Kd.R_drewN | apply Kd.R_drew)); exact Kd.R_mono (Kd.R_far (p := ⟨gb628, 2, none⟩) (Kd.R_far (p := ⟨gb628, 1, none⟩) (Kd.R_far (p := ⟨gb628, 0, none⟩) (Kd.R_types HO641.out BK628.out (by decide)) (fun _ hk => hk.2) (.bool t638)) (fun _ hk => hk.2) (.slice Ao14 t639.length co14)) (fun _ hk => hk.2) (.slice Ao15 t642.length co15)) (fun _ hk => ⟨hk.1.1, hk.1.2⟩), by (with_reducible repeat (first | apply Kd.R_alloc | apply Kd.R_drewN | apply Kd.R_drew)); exact Kd.R_mono (Kd.R_far (p := ⟨gb628, 2, none⟩) (Kd.R_far (p := ⟨gb628, 1, none⟩) (Kd.R_far (p := ⟨gb628, 0, none⟩) (Kd.R_types HO644.out BK628.out (by decide)) (fun _ hk => hk.2) (.bool t638)) (fun _ hk => hk.2) (.slice Ao14 t639.length co14)) (fun _ hk => hk.2) (.slice Ao15 t642.length co15)) (fun _ hk => ⟨hk.1.1, hk.1.2⟩), by repeat (first | (with_reducible first | exact HB.out | apply below_alloc | apply pw_below_drewN | apply below_drew1 | refine below_set ?_ (IsS92.ge HI631.out) | refine below_set ?_ GE628.out) | exact HB.out)⟩
end Go.Proofs.Ytgmjolngnhdafaa.P

end
section

namespace Go.Proofs.Ytgmjolngnhdafaa.P
open Go.RowKit Go.Proofs.YtgmjolngnhdafaaW.PrintWords Go.Proofs.YtgmjolngnhdafaaW.PrintLast Go.Proofs.YtgmjolngnhdafaaW.PrintMore
attribute [local go_sem] max2_int min2_int max_two min_two max_three min_three max_four min_four
set_option linter.unusedVariables false
set_option linter.unusedSimpArgs false
set_option maxHeartbeats 8000000 in
set_option maxRecDepth 100000 in
theorem laws_FnShapeOk.calls (k : Nat) (A0 : Option Addr) (c0 : Nat) (l0 : List Int) (r : Bool) (w : World) (hr0 : Kd.C (Kd.int .u8) w A0 l0.length l0) (hc0 : l0.length ≤ c0) (h : laws_FnShapeOk.f k l0 = some r) (hr_ : r = true) :
    Calls Try.prog 17 #[.slice A0 l0.length c0] w fun e w' => e = .returned (.bool r) ∧ Below w.heap.size w w' := by
  have hu52 := Try.underlying52
  have HR0 := Aside0.mk hr0
  have HC0 := Aside0.mk hc0
  clear hr0 hc0
  have HB := Aside0.mk (Below.refl w.heap.size w)
  have H : (if (l0.length : Int) > 1048576 then (some true) else ((spec_DrawShapeOk.f k l0).bind fun bt646 => ((impl_ShapeOk.f k bt646.1 bt646.2.1 bt646.2.2.1 bt646.2.2.2.1 bt646.2.2.2.2).bind fun t658 => ((spec_ShapeOk.f k bt646.1 bt646.2.1 bt646.2.2.1 bt646.2.2.2.1 bt646.2.2.2.2).bind fun t659 => (if (t658 != t659) = true then (laws_FnShapeOk.j0 k bt646.1 bt646.2.1 t658 true bt646.2.2.1 bt646.2.2.2.1 bt646.2.2.2.2) else (laws_FnShapeOk.j0 k bt646.1 bt646.2.1 t658 (!t658) bt646.2.2.1 bt646.2.2.2.1 bt646.2.2.2.2)))))) = some r := h
  clear h
  by_cases c2 : (l0.length : Int) > 1048576
  · rw [if_pos c2] at H
    have c2b0 : decide (1048576 < (l0.length : Int)) = true := decide_eq_true c2
    have c2b1 : decide (1048576 < l0.length) = true := decide_eq_true (by omega)
    clear c2
    obtain rfl := Option.some.inj H
    simp only [Option.some.injEq, Prod.mk.injEq] at H
    obtain ⟨rfl⟩ := H
    go_enter Try.func17, Try.ntmps17
    go_wp2
    go_ret
    exact ⟨by first | rfl | (simp [errW_none, errW_some] <;> rfl) | (simp [*, errW_none, errW_some] <;> rfl), by repeat (first | (with_reducible first | exact HB.out | apply below_alloc | apply pw_below_drewN | apply below_drew1) | exact HB.out)⟩
  · rw [if_neg c2] at H
    have c2b0 : decide (1048576 < (l0.length : Int)) = false := decide_eq_false c2
    have c2b1 : decide (1048576 < l0.length) = false := decide_eq_false (by omega)
    clear c2
    replace H := Option.bind_eq_some_iff.mp H
    obtain ⟨⟨t646, t649, t650, t651, t654⟩, A30, H⟩ := H
    replace H : ((impl_ShapeOk.f k t646 t649 t650 t651 t654).bind fun t658 => ((spec_ShapeOk.f k t646 t649 t650 t651 t654).bind fun t659 => (if (t658 != t659) = true then (laws_FnShapeOk.j0 k t646 t649 t658 true t650 t651 t654) else (laws_FnShapeOk.j0 k t646 t649 t658 (!t658) t650 t651 t654)))) = some r := H
    have A3 := Aside0.mk A30
    clear A30
    replace H := Option.bind_eq_some_iff.mp H
    obtain ⟨t658, A40, H⟩ := H
    replace H : ((spec_ShapeOk.f k t646 t649 t650 t651 t654).bind fun t659 => (if (t658 != t659) = true then (laws_FnShapeOk.j0 k t646 t649 t658 true t650 t651 t654) else (laws_FnShapeOk.j0 k t646 t649 t658 (!t658) t650 t651 t654))) = some r := H
    have A4 := Aside0.mk A40
    clear A40
    have HC5 := Aside0.mk H
    clear H
    go_enter Try.func17, Try.ntmps17
    go_upto_region 5 with (first | ((with_reducible refine gate_callee (f := 50) rfl ?_); refine goesL_ (some 13) rfl rfl Try.func50 (by kernel_rfl) rfl #[.slice A0 l0.length c0] rfl (by (try simp only [List.map_toArray, List.map_cons, List.map_nil]); first | done | rfl | (simp only [List.length_drop, List.length_take]; rfl)) ?_; (with_reducible refine (spec_DrawShapeOk.calls k _ _ l0 t646 t649 t650 t651 t654 _ ?side1 ?side2 A3.out).mono ?_); (case side1 => repeat (first | exact HR0.out | (with_reducible refine Kd.C_alloc ?_ _) | (with_reducible refine Kd.C_drewN ?_ _) | (with_reducible refine Kd.C_drew ?_))); (case side2 => exact HC0.out); rintro e w6 ⟨v647, v652, v655, rfl, ho0, ho1, ho2, hb⟩; refine ⟨_, rfl, ?_⟩; have n0_ := Aside0.mk (Kd.N_lower (Kd.N_mono (ok' := fun k_ => some k_ ≠ (v652 : Value).ownBlock ∧ some k_ ≠ (v655 : Value).ownBlock) ho0 (fun k_ hk_ => ⟨hk_.2.1, hk_.2.2⟩)) (below_size (by repeat (first | (with_reducible first | exact HB.out | apply below_alloc | apply pw_below_drewN | apply below_drew1) | exact HB.out)))); have n1_ := Aside0.mk (Kd.R_lower (Kd.R_mono (ok' := fun k_ => some k_ ≠ (v655 : Value).ownBlock) ho1 (fun _ hk_ => hk_.2)) (below_size (by repeat (first | (with_reducible first | exact HB.out | apply below_alloc | apply pw_below_drewN | apply below_drew1) | exact HB.out)))); have n2_ := Aside0.mk (Kd.R_lower (Kd.R_mono (ok' := fun k_ => some k_ ≠ (v652 : Value).ownBlock) ho2 (fun _ hk_ => hk_.2)) (below_size (by repeat (first | (with_reducible first | exact HB.out | apply below_alloc | apply pw_below_drewN | apply below_drew1) | exact HB.out)))); have n3_ := Aside0.mk (below_step (by repeat (first | (with_reducible first | exact HB.out | apply below_alloc | apply pw_below_drewN | apply below_drew1) | exact HB.out)) hb); clear HB; have HO648 := n0_; have HO653 := n1_; have HO656 := n2_; have HB := n3_; clear n0_ n1_ n2_ n3_; (try clear hb); (try clear hb2); (try clear hk); (try clear hi); (try clear ho0); (try clear ho1); (try clear ho2)) | ((with_reducible refine gate_dst (N := 5) rfl ?_); (try (refine gate_guard (by rfl) ?_; dsimp only)); refine box_event ?hg (N := 5) ?hd (cs := #[.bool false, .slice none 0 0, .slice none 0 0]) (t := 52) ?hr ?_; (case hd => rfl); (case hg => rfl); (case hr => first | (go_simp; done) | (go_simp; rfl)); intro gb657 hg w7 hbox hb; have n0_ := Aside0.mk (Kd.N_below (Kd.N_elderB (by (with_reducible repeat (first | apply Kd.N_alloc | apply Kd.N_drewN | apply Kd.N_drew)); exact HO648.out) gb657 (Nat.le_of_eq hg.symm)) hb); have n1_ := Aside0.mk (Kd.R_below (by (with_reducible repeat (first | apply Kd.R_alloc | apply Kd.R_drewN | apply Kd.R_drew)); exact HO653.out) hb); have n2_ := Aside0.mk (Kd.R_below (by (with_reducible repeat (first | apply Kd.R_alloc | apply Kd.R_drewN | apply Kd.R_drew)); exact HO656.out) hb); have n3_ := Aside0.mk (below_step (by repeat (first | (with_reducible first | exact HB.out | apply below_alloc | apply pw_below_drewN | apply below_drew1) | exact HB.out)) hb); have n4_ := Aside0.mk (hbox); have n5_ := Aside0.mk ((by rw [hg]; exact (below_size (by repeat (first | (with_reducible first | exact HB.out | apply below_alloc | apply pw_below_drewN | apply below_drew1) | exact HB.out))) : w.heap.size ≤ gb657)); have n6_ := Aside0.mk ((by rw [hg]; exact (below_size (by repeat (first | (with_reducible first | exact HB.out | apply below_alloc | apply pw_below_drewN | apply below_drew1) | exact HB.out))) : w.heap.size ≤ gb657)); clear HO648; clear HO653; clear HO656; clear HB; have HO648 := n0_; have HO653 := n1_; have HO656 := n2_; have HB := n3_; have BK657 := n4_; have GW657 := n5_; have GE657 := n6_; clear n0_ n1_ n2_ n3_ n4_ n5_ n6_; clear hb hbox hg; have hcz8_0 : w7.cell? ⟨gb657, 0, none⟩ = some (.bool false) := (blk_cell BK657.out 0).trans rfl; have hcz8_1 : w7.cell? ⟨gb657, 1, none⟩ = some (.slice none 0 0) := (blk_cell BK657.out 1).trans rfl; have hcz8_2 : w7.cell? ⟨gb657, 2, none⟩ = some (.slice none 0 0) := (blk_cell BK657.out 2).trans rfl; have hfz8_0 := blk_frozen BK657.out 0; have hfz8_1 := blk_frozen BK657.out 1; have hfz8_2 := blk_frozen BK657.out 2; obtain ⟨Ao9, co9, eo9⟩ := Kd.R_slice HO653.out; subst eo9; obtain ⟨Ao10, co10, eo10⟩ := Kd.R_slice HO656.out; subst eo10; obtain ⟨Ao11, co11, eo11⟩ := Kd.N_slice HO648.out; subst eo11) | ((with_reducible refine gate_callee (f := 48) rfl ?_); refine goesL_ (some 20) rfl rfl Try.func48 (by kernel_rfl) rfl #[.slice Ao11 t646.length co11, .int .i64 t649, .agg #[.bool t650, .slice Ao9 t651.length co9, .slice Ao10 t654.length co10]] rfl (by (try simp only [List.map_toArray, List.map_cons, List.map_nil]); first | done | rfl | (simp only [List.length_drop, List.length_take]; rfl)) ?_; (with_reducible refine (impl_ShapeOk.calls k _ _ t646 t649 t650 _ _ t651 _ _ t654 t658 _ ?side1 ?side2 ?side3 ?side4 ?side5 ?side6 A4.out).mono ?_); (case side1 => refine (Kd.N_reads' (e := 38) (base := w.heap.size) (ok := fun k_ => ((some k_ ≠ (.slice Ao9 t651.length co9 : Value).ownBlock ∧ some k_ ≠ (.slice Ao10 t654.length co10 : Value).ownBlock) ∧ k_ ≠ gb657)) (n := t646.length) (c := co11) ?_).2.2; exact (by (with_reducible repeat (first | apply Kd.N_alloc | apply Kd.N_drewN | apply Kd.N_drew)); exact (Kd.N_mono (Kd.N_far (p := ⟨gb657, 2, none⟩) (Kd.N_far (p := ⟨gb657, 1, none⟩) (Kd.N_far (p := ⟨gb657, 0, none⟩) (Kd.N_mono HO648.out (fun k_ hk => (⟨hk, hk.2⟩ : _ ∧ k_ ≠ gb657))) (fun _ hk => hk.2) (.bool t650)) (fun _ hk => hk.2) (.slice Ao9 t651.length co9)) (fun _ hk => hk.2) (.slice Ao10 t654.length co10)) (fun _ h_ => h_.1)))); (case side2 => exact (Kd.N_reads' HO648.out).2.1); (case side3 => refine (Kd.R_reads' (e := 3) (base := w.heap.size) (ok := fun k_ => some k_ ≠ (.slice Ao10 t654.length co10 : Value).ownBlock) (n := t651.length) (c := co9) ?_).2.2; exact (by (with_reducible repeat (first | apply Kd.R_alloc | apply Kd.R_drewN | apply Kd.R_drew)); exact (Kd.R_mono (Kd.R_far (p := ⟨gb657, 2, none⟩) (Kd.R_far (p := ⟨gb657, 1, none⟩) (Kd.R_far (p := ⟨gb657, 0, none⟩) (Kd.R_types HO653.out BK657.out (by decide)) (fun _ hk => hk.2) (.bool t650)) (fun _ hk => hk.2) (.slice Ao9 t651.length co9)) (fun _ hk => hk.2) (.slice Ao10 t654.length co10)) (fun _ h_ => h_.1)))); (case side4 => exact (Kd.R_reads' HO653.out).2.1); (case side5 => refine (Kd.R_reads' (e := 3) (base := w.heap.size) (ok := fun k_ => some k_ ≠ (.slice Ao9 t651.length co9 : Value).ownBlock) (n := t654.length) (c := co10) ?_).2.2; exact (by (with_reducible repeat (first | apply Kd.R_alloc | apply Kd.R_drewN | apply Kd.R_drew)); exact (Kd.R_mono (Kd.R_far (p := ⟨gb657, 2, none⟩) (Kd.R_far (p := ⟨gb657, 1, none⟩) (Kd.R_far (p := ⟨gb657, 0, none⟩) (Kd.R_types HO656.out BK657.out (by decide)) (fun _ hk => hk.2) (.bool t650)) (fun _ hk => hk.2) (.slice Ao9 t651.length co9)) (fun _ hk => hk.2) (.slice Ao10 t654.length co10)) (fun _ h_ => h_.1)))); (case side6 => exact (Kd.R_reads' HO656.out).2.1); rintro e w12 ⟨rfl, hb⟩; refine ⟨_, rfl, ?_⟩; have n0_ := Aside0.mk (Kd.N_below (by (with_reducible repeat (first | apply Kd.N_alloc | apply Kd.N_drewN | apply Kd.N_drew)); exact (Kd.N_mono (Kd.N_far (p := ⟨gb657, 2, none⟩) (Kd.N_far (p := ⟨gb657, 1, none⟩) (Kd.N_far (p := ⟨gb657, 0, none⟩) (Kd.N_mono HO648.out (fun k_ hk => (⟨hk, hk.2⟩ : _ ∧ k_ ≠ gb657))) (fun _ hk => hk.2) (.bool t650)) (fun _ hk => hk.2) (.slice Ao9 t651.length co9)) (fun _ hk => hk.2) (.slice Ao10 t654.length co10)) (fun _ h_ => h_.1))) hb); have n1_ := Aside0.mk (Kd.R_below (by (with_reducible repeat (first | apply Kd.R_alloc | apply Kd.R_drewN | apply Kd.R_drew)); exact (Kd.R_mono (Kd.R_far (p := ⟨gb657, 2, none⟩) (Kd.R_far (p := ⟨gb657, 1, none⟩) (Kd.R_far (p := ⟨gb657, 0, none⟩) (Kd.R_types HO653.out BK657.out (by decide)) (fun _ hk => hk.2) (.bool t650)) (fun _ hk => hk.2) (.slice Ao9 t651.length co9)) (fun _ hk => hk.2) (.slice Ao10 t654.length co10)) (fun _ h_ => h_.1))) hb); have n2_ := Aside0.mk (Kd.R_below (by (with_reducible repeat (first | apply Kd.R_alloc | apply Kd.R_drewN | apply Kd.R_drew)); exact (Kd.R_mono (Kd.R_far (p := ⟨gb657, 2, none⟩) (Kd.R_far (p := ⟨gb657, 1, none⟩) (Kd.R_far (p := ⟨gb657, 0, none⟩) (Kd.R_types HO656.out BK657.out (by decide)) (fun _ hk => hk.2) (.bool t650)) (fun _ hk => hk.2) (.slice Ao9 t651.length co9)) (fun _ hk => hk.2) (.slice Ao10 t654.length co10)) (fun _ h_ => h_.1))) hb); have n3_ := Aside0.mk (blk_below (g := gb657) (o := .cells #[.bool t650, .slice Ao9 t651.length co9, .slice Ao10 t654.length co10] 52 (0, 0)) (by (with_reducible repeat (first | refine blk_drewN ?_ _ | refine blk_drew ?_ | refine blk_alloc ?_ _)); refine blk_put (cs := #[.bool t650, .slice Ao9 t651.length co9, .slice none 0 0]) ?_ 2 _ rfl; (with_reducible repeat (first | refine blk_drewN ?_ _ | refine blk_drew ?_ | refine blk_alloc ?_ _)); refine blk_put (cs := #[.bool t650, .slice none 0 0, .slice none 0 0]) ?_ 1 _ rfl; (with_reducible repeat (first | refine blk_drewN ?_ _ | refine blk_drew ?_ | refine blk_alloc ?_ _)); refine blk_put (cs := #[.bool false, .slice none 0 0, .slice none 0 0]) ?_ 0 _ rfl; (with_reducible repeat (first | refine blk_drewN ?_ _ | refine blk_drew ?_ | refine blk_alloc ?_ _)); exact BK657.out) hb); have n4_ := Aside0.mk (below_step (by repeat (first | (with_reducible first | exact HB.out | apply below_alloc | apply pw_below_drewN | apply below_drew1 | refine below_set ?_ GE657.out) | exact HB.out)) hb); clear HO648; clear HO653; clear HO656; clear BK657; clear HB; have HO648 := n0_; have HO653 := n1_; have HO656 := n2_; have BK657 := n3_; have HB := n4_; clear n0_ n1_ n2_ n3_ n4_; (try clear hb); (try clear hb2); (try clear hk); (try clear hi)))
    (try simp only [Act.put, List.setIfInBounds_toArray, List.set_cons_zero, List.set_cons_succ])
    go_cut [30] (fun v30 wc => ∃ (kq : Nat) (x30_4 : Bool), v30 = .bool x30_4 ∧ Aside0 (laws_FnShapeOk.j0 kq t646 t649 t658 x30_4 t650 t651 t654 = some r) ∧ Aside0 (kq ≤ k) ∧ Aside0 (Kd.N k38 38 wc w.heap.size (fun k_ => some k_ ≠ ((.slice Ao9 t651.length co9) : Value).ownBlock ∧ some k_ ≠ ((.slice Ao10 t654.length co10) : Value).ownBlock ∧ k_ ≠ gb657) (.slice Ao11 t646.length co11) t646) ∧ Aside0 (Kd.R (Kd.int .i64) 3 wc w.heap.size (fun k_ => some k_ ≠ ((.slice Ao10 t654.length co10) : Value).ownBlock) (.slice Ao9 t651.length co9) t651) ∧ Aside0 (Kd.R (Kd.int .i64) 3 wc w.heap.size (fun k_ => some k_ ≠ ((.slice Ao9 t651.length co9) : Value).ownBlock) (.slice Ao10 t654.length co10) t654) ∧ Aside0 (wc.heap[gb657]? = some (.cells #[.bool t650, (.slice Ao9 t651.length co9), (.slice Ao10 t654.length co10)] 52 (0, 0))) ∧ Aside0 (Below w.heap.size w wc))
    case first =>
      have H := HC5.out
      clear HC5
      replace H := Option.bind_eq_some_iff.mp H
      obtain ⟨t659, A130, H⟩ := H
      replace H : (if (t658 != t659) = true then (laws_FnShapeOk.j0 k t646 t649 t658 true t650 t651 t654) else (laws_FnShapeOk.j0 k t646 t649 t658 (!t658) t650 t651 t654)) = some r := H
      have A13 := Aside0.mk A130
      clear A130
      by_cases c14 : (t658 != t659) = true
      · rw [if_pos c14] at H
        have c14b0 : (t658 != t659) = true := c14
        (try (have c14b1 : decide (t658 = t659) = false := by simpa using c14))
        (try (have c14b2 : (t658 == t659) = false := by simpa using c14))
        (try (have c14b3 : ¬ (t658 = t659) := by simpa using c14))
        clear c14
        (first | rw [c14b0] | (simp only [i64_w, i32_w]; rw [c14b0]) | skip)
        have H' := Aside0.mk H
        clear H
        have hcz15_0 : w12.cell? ⟨gb657, 0, none⟩ = some (.bool t650) := (blk_cell BK657.out 0).trans rfl
        have hcz15_1 : w12.cell? ⟨gb657, 1, none⟩ = some (.slice Ao9 t651.length co9) := (blk_cell BK657.out 1).trans rfl
        have hcz15_2 : w12.cell? ⟨gb657, 2, none⟩ = some (.slice Ao10 t654.length co10) := (blk_cell BK657.out 2).trans rfl
        have hfz15_0 := blk_frozen BK657.out 0
        have hfz15_1 := blk_frozen BK657.out 1
        have hfz15_2 := blk_frozen BK657.out 2
        go_wp2_with (first | ((with_reducible refine gate_callee (f := 46) rfl ?_); refine goesL_ (some 25) rfl rfl Try.func46 (by kernel_rfl) rfl #[.slice Ao11 t646.length co11, .int .i64 t649, .agg #[.bool t650, .slice Ao9 t651.length co9, .slice Ao10 t654.length co10]] rfl (by (try simp only [List.map_toArray, List.map_cons, List.map_nil]); first | done | rfl | (simp only [List.length_drop, List.length_take]; rfl)) ?_; (with_reducible refine (spec_ShapeOk.calls k _ _ t646 t649 t650 _ _ t651 _ _ t654 t659 _ ?side1 ?side2 ?side3 ?side4 ?side5 ?side6 A13.out).mono ?_); (case side1 => repeat (first | exact (Kd.N_reads' HO648.out).2.2 | (with_reducible refine Kd.C_alloc ?_ _) | (with_reducible refine Kd.C_drewN ?_ _) | (with_reducible refine Kd.C_drew ?_))); (case side2 => exact (Kd.N_reads' HO648.out).2.1); (case side3 => repeat (first | exact (Kd.R_reads' HO653.out).2.2 | (with_reducible refine Kd.C_alloc ?_ _) | (with_reducible refine Kd.C_drewN ?_ _) | (with_reducible refine Kd.C_drew ?_))); (case side4 => exact (Kd.R_reads' HO653.out).2.1); (case side5 => repeat (first | exact (Kd.R_reads' HO656.out).2.2 | (with_reducible refine Kd.C_alloc ?_ _) | (with_reducible refine Kd.C_drewN ?_ _) | (with_reducible refine Kd.C_drew ?_))); (case side6 => exact (Kd.R_reads' HO656.out).2.1); rintro e w16 ⟨rfl, hb⟩; refine ⟨_, rfl, ?_⟩; have n0_ := Aside0.mk (Kd.N_below (by (with_reducible repeat (first | apply Kd.N_alloc | apply Kd.N_drewN | apply Kd.N_drew)); exact HO648.out) hb); have n1_ := Aside0.mk (Kd.R_below (by (with_reducible repeat (first | apply Kd.R_alloc | apply Kd.R_drewN | apply Kd.R_drew)); exact HO653.out) hb); have n2_ := Aside0.mk (Kd.R_below (by (with_reducible repeat (first | apply Kd.R_alloc | apply Kd.R_drewN | apply Kd.R_drew)); exact HO656.out) hb); have n3_ := Aside0.mk (blk_below (g := gb657) (o := .cells #[.bool t650, .slice Ao9 t651.length co9, .slice Ao10 t654.length co10] 52 (0, 0)) (by (with_reducible repeat (first | refine blk_drewN ?_ _ | refine blk_drew ?_ | refine blk_alloc ?_ _)); exact BK657.out) hb); have n4_ := Aside0.mk (below_step (by repeat (first | (with_reducible first | exact HB.out | apply below_alloc | apply pw_below_drewN | apply below_drew1 | refine below_set ?_ GE657.out) | exact HB.out)) hb); clear HO648; clear HO653; clear HO656; clear BK657; clear HB; have HO648 := n0_; have HO653 := n1_; have HO656 := n2_; have BK657 := n3_; have HB := n4_; clear n0_ n1_ n2_ n3_ n4_; (try clear hb); (try clear hb2); (try clear hk); (try clear hi)))
        go_meet
        case rel => exact ⟨_, (true), (by first | rfl | (simp; done) | (simp [*]; done)), H', ⟨by first | omega | exact Nat.le_refl _⟩, ⟨by (with_reducible repeat (first | apply Kd.N_alloc | apply Kd.N_drewN | apply Kd.N_drew)); exact Kd.N_mono HO648.out (fun _ hk => ⟨hk.1.1, ⟨hk.1.2, hk.2⟩⟩)⟩, ⟨by (with_reducible repeat (first | apply Kd.R_alloc | apply Kd.R_drewN | apply Kd.R_drew)); exact HO653.out⟩, ⟨by (with_reducible repeat (first | apply Kd.R_alloc | apply Kd.R_drewN | apply Kd.R_drew)); exact HO656.out⟩, ⟨by (with_reducible repeat (first | refine blk_drewN ?_ _ | refine blk_drew ?_ | refine blk_alloc ?_ _)); exact BK657.out⟩, ⟨by repeat (first | (with_reducible first | exact HB.out | apply below_alloc | apply pw_below_drewN | apply below_drew1 | refine below_set ?_ GE657.out) | exact HB.out)⟩⟩
      · rw [if_neg c14] at H
        have c14b0 : (t658 != t659) = false := by simpa using c14
        (try (have c14b1 : decide (t658 = t659) = true := by simpa using c14))
        (try (have c14b2 : (t658 == t659) = true := by simpa using c14))
        clear c14
        (first | rw [c14b0] | (simp only [i64_w, i32_w]; rw [c14b0]) | skip)
        have H' := Aside0.mk H
        clear H
        have hcz17_0 : w12.cell? ⟨gb657, 0, none⟩ = some (.bool t650) := (blk_cell BK657.out 0).trans rfl
        have hcz17_1 : w12.cell? ⟨gb657, 1, none⟩ = some (.slice Ao9 t651.length co9) := (blk_cell BK657.out 1).trans rfl
        have hcz17_2 : w12.cell? ⟨gb657, 2, none⟩ = some (.slice Ao10 t654.length co10) := (blk_cell BK657.out 2).trans rfl
        have hfz17_0 := blk_frozen BK657.out 0
        have hfz17_1 := blk_frozen BK657.out 1
        have hfz17_2 := blk_frozen BK657.out 2
        go_wp2_with (first | ((with_reducible refine gate_callee (f := 46) rfl ?_); refine goesL_ (some 25) rfl rfl Try.func46 (by kernel_rfl) rfl #[.slice Ao11 t646.length co11, .int .i64 t649, .agg #[.bool t650, .slice Ao9 t651.length co9, .slice Ao10 t654.length co10]] rfl (by (try simp only [List.map_toArray, List.map_cons, List.map_nil]); first | done | rfl | (simp only [List.length_drop, List.length_take]; rfl)) ?_; (with_reducible refine (spec_ShapeOk.calls k _ _ t646 t649 t650 _ _ t651 _ _ t654 t659 _ ?side1 ?side2 ?side3 ?side4 ?side5 ?side6 A13.out).mono ?_); (case side1 => repeat (first | exact (Kd.N_reads' HO648.out).2.2 | (with_reducible refine Kd.C_alloc ?_ _) | (with_reducible refine Kd.C_drewN ?_ _) | (with_reducible refine Kd.C_drew ?_))); (case side2 => exact (Kd.N_reads' HO648.out).2.1); (case side3 => repeat (first | exact (Kd.R_reads' HO653.out).2.2 | (with_reducible refine Kd.C_alloc ?_ _) | (with_reducible refine Kd.C_drewN ?_ _) | (with_reducible refine Kd.C_drew ?_))); (case side4 => exact (Kd.R_reads' HO653.out).2.1); (case side5 => repeat (first | exact (Kd.R_reads' HO656.out).2.2 | (with_reducible refine Kd.C_alloc ?_ _) | (with_reducible refine Kd.C_drewN ?_ _) | (with_reducible refine Kd.C_drew ?_))); (case side6 => exact (Kd.R_reads' HO656.out).2.1); rintro e w18 ⟨rfl, hb⟩; refine ⟨_, rfl, ?_⟩; have n0_ := Aside0.mk (Kd.N_below (by (with_reducible repeat (first | apply Kd.N_alloc | apply Kd.N_drewN | apply Kd.N_drew)); exact HO648.out) hb); have n1_ := Aside0.mk (Kd.R_below (by (with_reducible repeat (first | apply Kd.R_alloc | apply Kd.R_drewN | apply Kd.R_drew)); exact HO653.out) hb); have n2_ := Aside0.mk (Kd.R_below (by (with_reducible repeat (first | apply Kd.R_alloc | apply Kd.R_drewN | apply Kd.R_drew)); exact HO656.out) hb); have n3_ := Aside0.mk (blk_below (g := gb657) (o := .cells #[.bool t650, .slice Ao9 t651.length co9, .slice Ao10 t654.length co10] 52 (0, 0)) (by (with_reducible repeat (first | refine blk_drewN ?_ _ | refine blk_drew ?_ | refine blk_alloc ?_ _)); exact BK657.out) hb); have n4_ := Aside0.mk (below_step (by repeat (first | (with_reducible first | exact HB.out | apply below_alloc | apply pw_below_drewN | apply below_drew1 | refine below_set ?_ GE657.out) | exact HB.out)) hb); clear HO648; clear HO653; clear HO656; clear BK657; clear HB; have HO648 := n0_; have HO653 := n1_; have HO656 := n2_; have BK657 := n3_; have HB := n4_; clear n0_ n1_ n2_ n3_ n4_; (try clear hb); (try clear hb2); (try clear hk); (try clear hi)))
        go_meet
        case rel => exact ⟨_, (!t658), (by first | rfl | (simp; done) | (simp [*]; done)), H', ⟨by first | omega | exact Nat.le_refl _⟩, ⟨by (with_reducible repeat (first | apply Kd.N_alloc | apply Kd.N_drewN | apply Kd.N_drew)); exact Kd.N_mono HO648.out (fun _ hk => ⟨hk.1.1, ⟨hk.1.2, hk.2⟩⟩)⟩, ⟨by (with_reducible repeat (first | apply Kd.R_alloc | apply Kd.R_drewN | apply Kd.R_drew)); exact HO653.out⟩, ⟨by (with_reducible repeat (first | apply Kd.R_alloc | apply Kd.R_drewN | apply Kd.R_drew)); exact HO656.out⟩, ⟨by (with_reducible repeat (first | refine blk_drewN ?_ _ | refine blk_drew ?_ | refine blk_alloc ?_ _)); exact BK657.out⟩, ⟨by repeat (first | (with_reducible first | exact HB.out | apply below_alloc | apply pw_below_drewN | apply below_drew1 | refine below_set ?_ GE657.out) | exact HB.out)⟩⟩
    case rest =>
      clear HC5
      try clear c1
      try clear c2
      try clear c2b0
      try clear c2b1
      try clear p2
      try clear c4
      try clear c5
      try clear c14
      try clear c14b0
      try clear c14b1
      try clear c14b2
      try clear c17
      try clear hcz15_0
      try clear hcz15_1
      try clear hcz15_2
      try clear hcz17_0
      try clear hcz17_1
      try clear hcz17_2
      try clear hcz8_0
      try clear hcz8_1
      try clear hcz8_2
      try clear hfz15_0
      try clear hfz15_1
      try clear hfz15_2
      try clear hfz17_0
      try clear hfz17_1
      try clear hfz17_2
      try clear hfz8_0
      try clear hfz8_1
      try clear hfz8_2
      obtain ⟨kq, x30_4, rfl, HA, HJ4, HO_3, HO_658001, HO_658002, BK657, HB⟩ := hcut
      cases kq with
      | zero => exact absurd HA.out (by simp [laws_FnShapeOk.j0])
      | succ kj4 =>
        have H := HA.out
        clear HA
        simp only [laws_FnShapeOk.j0] at H
        by_cases c19 : x30_4 = true
        · subst c19
          have H1 : ((spec_ShapeOk.f kj4 t646 t649 t650 t651 t654).bind fun t660 => (some (t658 == t660))) = some r := by rw [if_pos rfl] at H; exact H
          clear H
          have H := H1
          clear H1
          replace H := Option.bind_eq_some_iff.mp H
          obtain ⟨t660, A200, H⟩ := H
          replace H : (some (t658 == t660)) = some r := H
          have A20 := Aside0.mk A200
          clear A200
          obtain rfl := Option.some.inj H
          simp only [Option.some.injEq, Prod.mk.injEq] at H
          obtain ⟨rfl⟩ := H
          have hcz21_0 : wc.cell? ⟨gb657, 0, none⟩ = some (.bool t650) := (blk_cell BK657.out 0).trans rfl
          have hcz21_1 : wc.cell? ⟨gb657, 1, none⟩ = some (.slice Ao9 t651.length co9) := (blk_cell BK657.out 1).trans rfl
          have hcz21_2 : wc.cell? ⟨gb657, 2, none⟩ = some (.slice Ao10 t654.length co10) := (blk_cell BK657.out 2).trans rfl
          have hfz21_0 := blk_frozen BK657.out 0
          have hfz21_1 := blk_frozen BK657.out 1
          have hfz21_2 := blk_frozen BK657.out 2
          go_wp2_with (first | ((with_reducible refine gate_callee (f := 46) rfl ?_); refine goesL_ (some 35) rfl rfl Try.func46 (by kernel_rfl) rfl #[.slice Ao11 t646.length co11, .int .i64 t649, .agg #[.bool t650, .slice Ao9 t651.length co9, .slice Ao10 t654.length co10]] rfl (by (try simp only [List.map_toArray, List.map_cons, List.map_nil]); first | done | rfl | (simp only [List.length_drop, List.length_take]; rfl)) ?_; (with_reducible refine (spec_ShapeOk.calls kj4 _ _ t646 t649 t650 _ _ t651 _ _ t654 t660 _ ?side1 ?side2 ?side3 ?side4 ?side5 ?side6 A20.out).mono ?_); (case side1 => repeat (first | exact (Kd.N_reads' HO_3.out).2.2 | (with_reducible refine Kd.C_alloc ?_ _) | (with_reducible refine Kd.C_drewN ?_ _) | (with_reducible refine Kd.C_drew ?_))); (case side2 => exact (Kd.N_reads' HO_3.out).2.1); (case side3 => repeat (first | exact (Kd.R_reads' HO_658001.out).2.2 | (with_reducible refine Kd.C_alloc ?_ _) | (with_reducible refine Kd.C_drewN ?_ _) | (with_reducible refine Kd.C_drew ?_))); (case side4 => exact (Kd.R_reads' HO_658001.out).2.1); (case side5 => repeat (first | exact (Kd.R_reads' HO_658002.out).2.2 | (with_reducible refine Kd.C_alloc ?_ _) | (with_reducible refine Kd.C_drewN ?_ _) | (with_reducible refine Kd.C_drew ?_))); (case side6 => exact (Kd.R_reads' HO_658002.out).2.1); rintro e w22 ⟨rfl, hb⟩; refine ⟨_, rfl, ?_⟩; have n0_ := Aside0.mk (Kd.N_below (by (with_reducible repeat (first | apply Kd.N_alloc | apply Kd.N_drewN | apply Kd.N_drew)); exact HO_3.out) hb); have n1_ := Aside0.mk (Kd.R_below (by (with_reducible repeat (first | apply Kd.R_alloc | apply Kd.R_drewN | apply Kd.R_drew)); exact HO_658001.out) hb); have n2_ := Aside0.mk (Kd.R_below (by (with_reducible repeat (first | apply Kd.R_alloc | apply Kd.R_drewN | apply Kd.R_drew)); exact HO_658002.out) hb); have n3_ := Aside0.mk (blk_below (g := gb657) (o := .cells #[.bool t650, .slice Ao9 t651.length co9, .slice Ao10 t654.length co10] 52 (0, 0)) (by (with_reducible repeat (first | refine blk_drewN ?_ _ | refine blk_drew ?_ | refine blk_alloc ?_ _)); exact BK657.out) hb); have n4_ := Aside0.mk (below_step (by repeat (first | (with_reducible first | exact HB.out | apply below_alloc | apply pw_below_drewN | apply below_drew1 | refine below_set ?_ GE657.out) | exact HB.out)) hb); clear HO_3; clear HO_658001; clear HO_658002; clear BK657; clear HB; have HO_3 := n0_; have HO_658001 := n1_; have HO_658002 := n2_; have BK657 := n3_; have HB := n4_; clear n0_ n1_ n2_ n3_ n4_; (try clear hb); (try clear hb2); (try clear hk); (try clear hi)))
          go_ret
          exact ⟨by first | rfl | (simp [errW_none, errW_some] <;> rfl) | (simp [*, errW_none, errW_some] <;> rfl), by repeat (first | (with_reducible first | exact HB.out | apply below_alloc | apply pw_below_drewN | apply below_drew1 | refine below_set ?_ GE657.out) | exact HB.out)⟩
        · replace c19 := Bool.eq_false_iff.mpr c19
          subst c19
          have H1 : (if t650 = true then (laws_FnShapeOk.l0 kj4 t646 t649 0 t650 t651 t654) else (some ((wrap64 ((t651.length : Int) + (t654.length : Int))) == 0))) = some r := by rw [if_neg (show ¬ (false = true) by decide)] at H; exact H
          clear H
          have H := H1
          clear H1
          by_cases c23 : t650 = true
          · subst c23
            have H1 : (laws_FnShapeOk.l0 kj4 t646 t649 0 true t651 t654) = some r := by rw [if_pos rfl] at H; exact H
            clear H
            have H := H1
            clear H1
            have H' := Aside0.mk H
            clear H
            have hcz24_0 : wc.cell? ⟨gb657, 0, none⟩ = some (.bool true) := (blk_cell BK657.out 0).trans rfl
            have hcz24_1 : wc.cell? ⟨gb657, 1, none⟩ = some (.slice Ao9 t651.length co9) := (blk_cell BK657.out 1).trans rfl
            have hcz24_2 : wc.cell? ⟨gb657, 2, none⟩ = some (.slice Ao10 t654.length co10) := (blk_cell BK657.out 2).trans rfl
            have hfz24_0 := blk_frozen BK657.out 0
            have hfz24_1 := blk_frozen BK657.out 1
            have hfz24_2 := blk_frozen BK657.out 2
            go_wp2
            go_loopg [7] kj4 (fun kq v7 w' => ∃ (x7_2 : Int), v7 = .int .i64 x7_2 ∧ Aside0 (laws_FnShapeOk.l0 kq t646 t649 x7_2 true t651 t654 = some r) ∧ Aside0 (kq ≤ kj4) ∧ Aside0 (Kd.N k38 38 w' w.heap.size (fun k_ => some k_ ≠ ((.slice Ao9 t651.length co9) : Value).ownBlock ∧ some k_ ≠ ((.slice Ao10 t654.length co10) : Value).ownBlock ∧ k_ ≠ gb657) (.slice Ao11 t646.length co11) t646) ∧ Aside0 (Kd.R (Kd.int .i64) 3 w' w.heap.size (fun k_ => some k_ ≠ ((.slice Ao10 t654.length co10) : Value).ownBlock) (.slice Ao9 t651.length co9) t651) ∧ Aside0 (Kd.R (Kd.int .i64) 3 w' w.heap.size (fun k_ => some k_ ≠ ((.slice Ao9 t651.length co9) : Value).ownBlock) (.slice Ao10 t654.length co10) t654) ∧ Aside0 (w'.heap[gb657]? = some (.cells #[.bool true, (.slice Ao9 t651.length co9), (.slice Ao10 t654.length co10)] 52 (0, 0))) ∧ Aside0 (Below w.heap.size w w'))
            case atStart => exact ⟨(0), (by first | rfl | (simp; done) | (simp [*]; done)), H', ⟨Nat.le_refl _⟩, ⟨by (with_reducible repeat (first | apply Kd.N_alloc | apply Kd.N_drewN | apply Kd.N_drew)); exact HO_3.out⟩, ⟨by (with_reducible repeat (first | apply Kd.R_alloc | apply Kd.R_drewN | apply Kd.R_drew)); exact HO_658001.out⟩, ⟨by (with_reducible repeat (first | apply Kd.R_alloc | apply Kd.R_drewN | apply Kd.R_drew)); exact HO_658002.out⟩, ⟨by (with_reducible repeat (first | refine blk_drewN ?_ _ | refine blk_drew ?_ | refine blk_alloc ?_ _)); exact BK657.out⟩, ⟨by repeat (first | (with_reducible first | exact HB.out | apply below_alloc | apply pw_below_drewN | apply below_drew1 | refine below_set ?_ GE657.out) | exact HB.out)⟩⟩
            case round =>
              clear H'
              try clear c1
              try clear c2
              try clear c2b0
              try clear c2b1
              try clear p2
              try clear c4
              try clear c5
              try clear p6
              try clear c14
              try clear c14b0
              try clear c14b1
              try clear c14b2
              try clear c17
              try clear c19
              try clear c23
              try clear hcz15_0
              try clear hcz15_1
              try clear hcz15_2
              try clear hcz17_0
              try clear hcz17_1
              try clear hcz17_2
              try clear hcz21_0
              try clear hcz21_1
              try clear hcz21_2
              try clear hcz24_0
              try clear hcz24_1
              try clear hcz24_2
              try clear hcz8_0
              try clear hcz8_1
              try clear hcz8_2
              try clear hfz15_0
              try clear hfz15_1
              try clear hfz15_2
              try clear hfz17_0
              try clear hfz17_1
              try clear hfz17_2
              try clear hfz21_0
              try clear hfz21_1
              try clear hfz21_2
              try clear hfz24_0
              try clear hfz24_1
              try clear hfz24_2
              try clear hfz8_0
              try clear hfz8_1
              try clear hfz8_2
              try clear p2
              obtain ⟨x7_2, rfl, HA, HK2, HO_3, HO_658001, HO_658002, BK657, HB⟩ := hrel
              cases gk with
              | zero => exact absurd HA.out (by simp [laws_FnShapeOk.l0])
              | succ k2 =>
                have H := HA.out
                clear HA
                simp only [laws_FnShapeOk.l0] at H
                by_cases c25 : x7_2 < (t654.length : Int)
                · rw [if_pos c25] at H
                  have c25b0 : decide (x7_2 < (t654.length : Int)) = true := decide_eq_true c25
                  clear c25
                  by_cases c26 : 0 ≤ x7_2
                  · rw [if_pos c26] at H
                    have c26b0 : decide (0 ≤ x7_2) = true := decide_eq_true c26
                    clear c26
                    by_cases c27 : (rd t654 x7_2) = 0
                    · rw [if_pos c27] at H
                      have c27b0 : ((rd t654 x7_2) == 0) = true := beq_iff_eq.mpr c27
                      have c27b1 : ((rd t654 x7_2) != 0) = false := bne_eq_false_iff_eq.mpr c27
                      clear c27
                      obtain rfl := Option.some.inj H
                      exact absurd hr_ (by decide)
                    · rw [if_neg c27] at H
                      have c27b0 : ((rd t654 x7_2) == 0) = false := beq_eq_false_iff_ne.mpr c27
                      have c27b1 : ((rd t654 x7_2) != 0) = true := bne_iff_ne.mpr c27
                      have H' := Aside0.mk H
                      clear H
                      have hcz28_0 : wr.cell? ⟨gb657, 0, none⟩ = some (.bool true) := (blk_cell BK657.out 0).trans rfl
                      have hcz28_1 : wr.cell? ⟨gb657, 1, none⟩ = some (.slice Ao9 t651.length co9) := (blk_cell BK657.out 1).trans rfl
                      have hcz28_2 : wr.cell? ⟨gb657, 2, none⟩ = some (.slice Ao10 t654.length co10) := (blk_cell BK657.out 2).trans rfl
                      have hfz28_0 := blk_frozen BK657.out 0
                      have hfz28_1 := blk_frozen BK657.out 1
                      have hfz28_2 := blk_frozen BK657.out 2
                      have p661 : 0 ≤ (x7_2 : Int) := of_decide_eq_true (by first | (with_reducible assumption) | assumption)
                      have q661 : x7_2 < (t654.length : Int) := of_decide_eq_true (by first | (with_reducible assumption) | assumption)
                      obtain ⟨ad661, e661, hx661_0⟩ := Kd.at_int (Kd.R_reads' HO_658002.out).2.2 x7_2 p661 q661
                      cases e661
                      replace p661 := eq_true p661
                      replace q661 := eq_true q661
                      go_wp2
                      go_roundg k2
                      case measure => have := HJ4.out; have := HK2.out; omega
                      case rel => exact ⟨(wrap64 (x7_2 + 1)), (by first | rfl | (simp; done) | (simp [*]; done)), H', ⟨by have := HJ4.out; have := HK2.out; omega⟩, ⟨by (with_reducible repeat (first | apply Kd.N_alloc | apply Kd.N_drewN | apply Kd.N_drew)); exact HO_3.out⟩, ⟨by (with_reducible repeat (first | apply Kd.R_alloc | apply Kd.R_drewN | apply Kd.R_drew)); exact HO_658001.out⟩, ⟨by (with_reducible repeat (first | apply Kd.R_alloc | apply Kd.R_drewN | apply Kd.R_drew)); exact HO_658002.out⟩, ⟨by (with_reducible repeat (first | refine blk_drewN ?_ _ | refine blk_drew ?_ | refine blk_alloc ?_ _)); exact BK657.out⟩, ⟨by repeat (first | (with_reducible first | exact HB.out | apply below_alloc | apply pw_below_drewN | apply below_drew1 | refine below_set ?_ GE657.out) | exact HB.out)⟩⟩
                  · rw [if_neg c26] at H
                    exact absurd H (by simp)
                · rw [if_neg c25] at H
                  have c25b0 : decide (x7_2 < (t654.length : Int)) = false := decide_eq_false c25
                  clear c25
                  by_cases c29 : (t651.length : Int) = t649
                  · rw [if_pos c29] at H
                    have c29b0 : ((t651.length : Int) == t649) = true := beq_iff_eq.mpr c29
                    have c29b1 : ((t651.length : Int) != t649) = false := bne_eq_false_iff_eq.mpr c29
                    clear c29
                    by_cases c30 : (t654.length : Int) ≤ 4
                    · rw [if_pos c30] at H
                      have c30b0 : decide ((t654.length : Int) ≤ 4) = true := decide_eq_true c30
                      have c30b1 : decide (t654.length ≤ 4) = true := decide_eq_true (by omega)
                      clear c30
                      replace H := Option.bind_eq_some_iff.mp H
                      obtain ⟨t662, A310, H⟩ := H
                      replace H : (some t662) = some r := H
                      have A31 := Aside0.mk A310
                      clear A310
                      obtain rfl := Option.some.inj H
                      simp only [Option.some.injEq, Prod.mk.injEq] at H
                      obtain ⟨rfl⟩ := H
                      have hcz32_0 : wr.cell? ⟨gb657, 0, none⟩ = some (.bool true) := (blk_cell BK657.out 0).trans rfl
                      have hcz32_1 : wr.cell? ⟨gb657, 1, none⟩ = some (.slice Ao9 t651.length co9) := (blk_cell BK657.out 1).trans rfl
                      have hcz32_2 : wr.cell? ⟨gb657, 2, none⟩ = some (.slice Ao10 t654.length co10) := (blk_cell BK657.out 2).trans rfl
                      have hfz32_0 := blk_frozen BK657.out 0
                      have hfz32_1 := blk_frozen BK657.out 1
                      have hfz32_2 := blk_frozen BK657.out 2
                      go_wp2_with (first | (go_at_call 48; (refine (impl_ShapeOk.calls k2 _ _ t646 t649 false _ _ ([] : List Int) _ _ ([] : List Int) t662 _ ?side1 ?side2 ?side3 ?side4 ?side5 ?side6 A31.out).mono ?_); (case side1 => repeat (first | exact (Kd.N_reads' HO_3.out).2.2 | (with_reducible refine Kd.C_alloc ?_ _) | (with_reducible refine Kd.C_drewN ?_ _) | (with_reducible refine Kd.C_drew ?_))); (case side2 => exact (Kd.N_reads' HO_3.out).2.1); (case side3 => exact Kd.C_nil _ _); (case side4 => exact Nat.le_refl _); (case side5 => exact Kd.C_nil _ _); (case side6 => exact Nat.le_refl _); rintro e w33 ⟨rfl, hb⟩; have n0_ := Aside0.mk (Kd.N_below (by (with_reducible repeat (first | apply Kd.N_alloc | apply Kd.N_drewN | apply Kd.N_drew)); exact HO_3.out) hb); have n1_ := Aside0.mk (Kd.R_below (by (with_reducible repeat (first | apply Kd.R_alloc | apply Kd.R_drewN | apply Kd.R_drew)); exact HO_658001.out) hb); have n2_ := Aside0.mk (Kd.R_below (by (with_reducible repeat (first | apply Kd.R_alloc | apply Kd.R_drewN | apply Kd.R_drew)); exact HO_658002.out) hb); have n3_ := Aside0.mk (blk_below (g := gb657) (o := .cells #[.bool true, .slice Ao9 t651.length co9, .slice Ao10 t654.length co10] 52 (0, 0)) (by (with_reducible repeat (first | refine blk_drewN ?_ _ | refine blk_drew ?_ | refine blk_alloc ?_ _)); exact BK657.out) hb); have n4_ := Aside0.mk (below_step (by repeat (first | (with_reducible first | exact HB.out | apply below_alloc | apply pw_below_drewN | apply below_drew1 | refine below_set ?_ GE657.out) | exact HB.out)) hb); clear HO_3; clear HO_658001; clear HO_658002; clear BK657; clear HB; have HO_3 := n0_; have HO_658001 := n1_; have HO_658002 := n2_; have BK657 := n3_; have HB := n4_; clear n0_ n1_ n2_ n3_ n4_; (try clear hb); (try clear hb2); (try clear hk); (try clear hi)))
                      go_ret
                      exact ⟨by first | rfl | (simp [errW_none, errW_some] <;> rfl) | (simp [*, errW_none, errW_some] <;> rfl), by repeat (first | (with_reducible first | exact HB.out | apply below_alloc | apply pw_below_drewN | apply below_drew1 | refine below_set ?_ GE657.out) | exact HB.out)⟩
                    · rw [if_neg c30] at H
                      have c30b0 : decide ((t654.length : Int) ≤ 4) = false := decide_eq_false c30
                      have c30b1 : decide (t654.length ≤ 4) = false := decide_eq_false (by omega)
                      clear c30
                      obtain rfl := Option.some.inj H
                      exact absurd hr_ (by decide)
                  · rw [if_neg c29] at H
                    have c29b0 : ((t651.length : Int) == t649) = false := beq_eq_false_iff_ne.mpr c29
                    have c29b1 : ((t651.length : Int) != t649) = true := bne_iff_ne.mpr c29
                    obtain rfl := Option.some.inj H
                    exact absurd hr_ (by decide)
          · replace c23 := Bool.eq_false_iff.mpr c23
            subst c23
            have H1 : (some ((wrap64 ((t651.length : Int) + (t654.length : Int))) == 0)) = some r := by rw [if_neg (show ¬ (false = true) by decide)] at H; exact H
            clear H
            have H := H1
            clear H1
            obtain rfl := Option.some.inj H
            simp only [Option.some.injEq, Prod.mk.injEq] at H
            obtain ⟨rfl⟩ := H
            have hcz34_0 : wc.cell? ⟨gb657, 0, none⟩ = some (.bool false) := (blk_cell BK657.out 0).trans rfl
            have hcz34_1 : wc.cell? ⟨gb657, 1, none⟩ = some (.slice Ao9 t651.length co9) := (blk_cell BK657.out 1).trans rfl
            have hcz34_2 : wc.cell? ⟨gb657, 2, none⟩ = some (.slice Ao10 t654.length co10) := (blk_cell BK657.out 2).trans rfl
            have hfz34_0 := blk_frozen BK657.out 0
            have hfz34_1 := blk_frozen BK657.out 1
            have hfz34_2 := blk_frozen BK657.out 2
            go_wp2
            go_ret
            exact ⟨by first | rfl | (simp [errW_none, errW_some] <;> rfl) | (simp [*, errW_none, errW_some] <;> rfl), by repeat (first | (with_reducible first | exact HB.out | apply below_alloc | apply pw_below_drewN | apply below_drew1 | refine below_set ?_ GE657.out) | exact HB.out)⟩
theorem laws_FnShapeOk.walk (P : laws_FnShapeOk.Pure) (a0 : Option Addr) (len0 cap0 : Nat) (z0 : List Int) (w : World) (w0 : (a0 = none ∧ len0 = 0 ∧ cap0 = 0 ∧ z0 = []) ∨ ∃ x, a0 = some x ∧ len0 ≤ cap0 ∧ cap0 ≤ maxLen ∧ z0.length = cap0 ∧ (∀ i, i < z0.length → w.cell? (x.add i) = some (.int .u8 (z0.getD i 0))) ∧ ∀ n ∈ z0, (Lit.int .u8 n).wf = true) (y0 : len0 * 1 ≤ 140737488351232) :
    Calls Try.prog 17 #[.slice a0 len0 cap0] w fun e w' => e = .returned (.bool true) ∧ Below w.heap.size w w' := by
  obtain ⟨l0, rfl, hr0, hm0, hw0, hc0⟩ := ReadsInt.ofRowC w0
  obtain ⟨k, h⟩ := P l0 hm0 y0 hw0
  refine (laws_FnShapeOk.calls k _ _ l0 true w (Kd.C_of_reads (d := (0 : Int)) (h1 := fun _ => rfl) hr0) hc0 h rfl).mono ?_
  rintro e w' ⟨rfl, hd⟩
  exact ⟨rfl, hd⟩
end Go.Proofs.Ytgmjolngnhdafaa.P

end
section

namespace Go.Proofs.Ytgmjolngnhdafaa.Kit
open Go Go.RowKit Go.Proofs.YtgmjolngnhdafaaW.PrintWords
set_option linter.unusedVariables false
def Evp {α : Type} (g : Nat → Option α) (P : α → Prop) : Prop := ∃ r, Ev g r ∧ P r
theorem Evp.pure {α : Type} {P : α → Prop} (r : α) (h : P r) : Evp (fun _ => some r) P := ⟨r, Ev.now r, h⟩
theorem Evp.bind {α β : Type} {g : Nat → Option α} {f : Nat → α → Option β} {P : α → Prop} {Q : β → Prop} (h : Evp g P) (k : ∀ a, P a → Evp (fun n => f n a) Q) : Evp (fun n => (g n).bind (f n)) Q := by
  obtain ⟨a, ha, hp⟩ := h
  obtain ⟨r, hr, hq⟩ := k a hp
  exact ⟨r, Ev.bind ha hr, hq⟩
theorem Evp.step {α : Type} {g f : Nat → Option α} {P : α → Prop} (h : ∀ k, g (k + 1) = f k) (k : Evp f P) : Evp g P := by
  obtain ⟨r, hr, hp⟩ := k
  exact ⟨r, Ev.step h hr, hp⟩
theorem Evp.congr {α : Type} {g f : Nat → Option α} {P : α → Prop} (h : ∀ k, g k = f k) (k : Evp f P) : Evp g P := by
  obtain ⟨r, hr, hp⟩ := k
  exact ⟨r, Ev.congr h hr, hp⟩
theorem Evp.mono {α : Type} {g : Nat → Option α} {P Q : α → Prop} (h : Evp g P) (hpq : ∀ r, P r → Q r) : Evp g Q := by
  obtain ⟨r, hr, hp⟩ := h
  exact ⟨r, hr, hpq r hp⟩
theorem Evp.yes {α : Type} {c : Prop} [Decidable c] {f g : Nat → Option α} {P : α → Prop} (hc : c) (h : Evp f P) : Evp (fun n => if c then f n else g n) P := by
  simp only [if_pos hc]; exact h
theorem Evp.no {α : Type} {c : Prop} [Decidable c] {f g : Nat → Option α} {P : α → Prop} (hc : ¬ c) (h : Evp g P) : Evp (fun n => if c then f n else g n) P := by
  simp only [if_neg hc]; exact h
theorem Evp.ite {α : Type} {c : Prop} [Decidable c] {f g : Nat → Option α} {P : α → Prop} (h : c → Evp f P) (k : ¬ c → Evp g P) : Evp (fun n => if c then f n else g n) P := by
  by_cases hc : c
  · exact Evp.yes hc (h hc)
  · exact Evp.no hc (k hc)
theorem Ev.of_evp {α : Type} {g : Nat → Option α} {r : α} (h : Evp g (fun x => x = r)) : Ev g r := by
  obtain ⟨x, hx, rfl⟩ := h
  exact hx
theorem Evp.const {α : Type} {o : Option α} {r : α} {P : α → Prop} (h : o = some r) (hp : P r) : Evp (fun _ => o) P := ⟨r, ⟨0, fun _ _ => h⟩, hp⟩
theorem Evp.rounds {α : Type} {g : Nat → Option α} {r : α} (h : Evp g (fun x => x = r)) : ∃ k, g k = some r := (Ev.of_evp h).rounds
theorem Evp.for_ {ρ : Type} {n : Nat} {g : Nat → Nat → Option ρ} {R : Nat → ρ → Prop} (hend : Evp (g n) (R n)) (hstep : ∀ i, i < n → Evp (g (i + 1)) (R (i + 1)) → Evp (g i) (R i)) : ∀ i, i ≤ n → Evp (g i) (R i) := by
  have key : ∀ d i, i + d = n → Evp (g i) (R i) := by
    intro d
    induction d with
    | zero => intro i hi; have : i = n := by omega
              subst this; exact hend
    | succ d ih => intro i hi; exact hstep i (by omega) (ih (i + 1) (by omega))
  intro i hi
  exact key (n - i) i (by omega)
theorem Evp.fors {σ ρ : Type} {n : Nat} {g : Nat → σ → Nat → Option ρ} {I : Nat → σ → Prop} {R : Nat → σ → ρ → Prop} (hend : ∀ s, I n s → Evp (g n s) (R n s))
    (hstep : ∀ i, i < n → (∀ s, I (i + 1) s → Evp (g (i + 1) s) (R (i + 1) s)) → ∀ s, I i s → Evp (g i s) (R i s)) : ∀ i, i ≤ n → ∀ s, I i s → Evp (g i s) (R i s) := by
  have key : ∀ d i, i + d = n → ∀ s, I i s → Evp (g i s) (R i s) := by
    intro d
    induction d with
    | zero => intro i hi; have : i = n := by omega
              subst this; exact hend
    | succ d ih => intro i hi; exact hstep i (by omega) (ih (i + 1) (by omega))
  intro i hi
  exact key (n - i) i (by omega)
theorem drop_at {α : Type} {xs : List α} {i : Nat} (h : i < xs.length) : xs.drop i = xs[i] :: xs.drop (i + 1) := List.drop_eq_getElem_cons h
theorem getD_at {α : Type} {xs : List α} {i : Nat} (h : i < xs.length) (d : α) : xs.getD i d = xs[i] := by
  rw [List.getD_eq_getElem?_getD, List.getElem?_eq_getElem h]; rfl
theorem w64' {i n : Nat} (h : i < n) (hn : n ≤ 9223372036854775807) : wrap64 ((i : Int) + 1) = ((i + 1 : Nat) : Int) := by unfold wrap64; omega
theorem w64 {n : Int} (h0 : -9223372036854775808 ≤ n) (h1 : n ≤ 9223372036854775807) : wrap64 n = n := by unfold wrap64; omega
theorem tmod_pos {a b : Int} (h0 : 0 ≤ a) : Int.tmod a b = a % b := Int.tmod_eq_emod_of_nonneg h0
theorem tdiv_pos {a b : Int} (h0 : 0 ≤ a) : Int.tdiv a b = a / b := Int.tdiv_eq_ediv_of_nonneg h0
theorem tmod_lo {a b : Int} (h0 : 0 ≤ a) (hb : 0 < b) : 0 ≤ Int.tmod a b ∧ Int.tmod a b < b := by
  rw [tmod_pos h0]; exact ⟨Int.emod_nonneg _ (by omega), Int.emod_lt_of_pos _ hb⟩
theorem xor_nonneg {a b : Int} (ha : 0 ≤ a) (ha' : a < 4611686018427387904) (hb : 0 ≤ b) (hb' : b < 4611686018427387904) :
    0 ≤ Go.bits .xor .i64 a b ∧ Go.bits .xor .i64 a b < 4611686018427387904 := by
  obtain ⟨x, rfl⟩ := Int.eq_ofNat_of_zero_le ha
  obtain ⟨y, rfl⟩ := Int.eq_ofNat_of_zero_le hb
  have hx : x < 2 ^ 62 := by omega
  have hy : y < 2 ^ 62 := by omega
  have hxy := Nat.xor_lt_two_pow hx hy
  have e : Go.bits .xor .i64 (x : Int) (y : Int) = ((x ^^^ y : Nat) : Int) := by
    show IntKind.i64.wrap (((BitVec.ofInt 64 (x : Int)) ^^^ (BitVec.ofInt 64 (y : Int))).toNat : Int) = _
    rw [BitVec.toNat_xor]
    have e1 : (BitVec.ofInt 64 (x : Int)).toNat = x := by simp; omega
    have e2 : (BitVec.ofInt 64 (y : Int)).toNat = y := by simp; omega
    rw [e1, e2, IntKind.wrap_i64]
    omega
  rw [e]
  omega
end Go.Proofs.Ytgmjolngnhdafaa.Kit

end
section

namespace Go.Proofs.Ytgmjolngnhdafaa.Kit
open Go Go.RowKit Go.Proofs.YtgmjolngnhdafaaW.PrintWords Go.Proofs.Ytgmjolngnhdafaa.P
set_option linter.unusedVariables false
def Bytes (bs : List Int) : Prop := bs.length ≤ 2000 ∧ ∀ x ∈ bs, 0 ≤ x ∧ x ≤ 255
theorem Bytes.rd {bs : List Int} (h : Bytes bs) (i : Int) : 0 ≤ rd bs i ∧ rd bs i ≤ 255 := by
  unfold Go.Proofs.YtgmjolngnhdafaaW.PrintWords.rd
  rw [List.getD_eq_getElem?_getD]
  by_cases hi : i.toNat < bs.length
  · rw [List.getElem?_eq_getElem hi]
    exact h.2 _ (List.getElem_mem hi)
  · rw [List.getElem?_eq_none (by omega)]
    simp
theorem open_evp {l : List Int} (h : ∀ x ∈ l, (Lit.int .u8 x).wf = true) : ∃ bs, spec_l6Open.f l = some (bs, 0) ∧ Bytes bs := by
  have hb : ∀ x ∈ l, 0 ≤ x ∧ x ≤ 255 := by
    intro x hx
    have := h x hx
    simp [Lit.wf, IntKind.min, IntKind.max, IntKind.signed, IntKind.bits] at this
    omega
  unfold spec_l6Open.f
  by_cases h1 : (l.length : Int) > 2000
  · rw [if_pos h1, if_pos (by omega)]
    exact ⟨_, rfl, by rw [List.length_take]; omega, fun x hx => hb x (List.mem_of_mem_take hx)⟩
  · rw [if_neg h1]
    exact ⟨_, rfl, by omega, hb⟩
theorem pick_evp {bs : List Int} (h : Bytes bs) {p n : Int} (h0 : 0 ≤ p) (h1 : p ≤ 1000000000) (hn : n ≤ 1000000000) :
    Evp (fun k => spec_l6Rd_pick.f k bs p n) (fun r => 0 ≤ r.1 ∧ (1 ≤ n → r.1 < n) ∧ r.2 = p + 1) := by
  have hp : wrap64 (p + 1) = p + 1 := w64 (by omega) (by omega)
  have hp1 : wrap64 (p + 1 - 1) = p := by rw [w64 (by omega) (by omega)]; omega
  have key : ∀ b : Bool, (b = false → 1 ≤ n ∧ bs.length ≠ 0) → Evp (fun k => spec_l6Rd_pick.j0 k n b bs (p + 1)) (fun r => 0 ≤ r.1 ∧ (1 ≤ n → r.1 < n) ∧ r.2 = p + 1) := by
    intro b hb
    refine Evp.step (f := fun k => _) (fun k => by rw [spec_l6Rd_pick.j0]) ?_
    rw [hp1]
    cases b with
    | true =>
      refine Evp.yes rfl (Evp.pure _ ⟨by omega, fun h => by show (0 : Int) < n; omega, rfl⟩)
    | false =>
      obtain ⟨hn1, hl⟩ := hb rfl
      have hlen : (bs.length : Int) ≤ 2000 := by have := h.1; omega
      refine Evp.no (by decide) (Evp.ite (fun hlt => ?_) (fun hge => ?_))
      · refine Evp.yes h0 (Evp.no (by omega) (Evp.pure _ ?_))
        have hr := h.rd p
        rw [w64 (by omega) (by omega)]
        have := tmod_lo (b := n) hr.1 (by omega)
        exact ⟨this.1, fun _ => this.2, rfl⟩
      · have hm1 := tmod_lo (a := p) (b := (bs.length : Int)) h0 (by omega)
        have e7 : wrap64 (wrap64 (p * 7) + 3) = p * 7 + 3 := by rw [w64 (n := p * 7) (by omega) (by omega), w64 (by omega) (by omega)]
        have hm2 := tmod_lo (a := p * 7 + 3) (b := (bs.length : Int)) (by omega) (by omega)
        rw [e7]
        refine Evp.no (by omega) (Evp.yes hm1.1 (Evp.yes hm1.2 (Evp.yes hm2.1 (Evp.yes hm2.2 (Evp.no (by omega) (Evp.pure _ ?_))))))
        have r1 := h.rd (Int.tmod p (bs.length : Int))
        have r2 := h.rd (Int.tmod (p * 7 + 3) (bs.length : Int))
        generalize rd bs (Int.tmod p (bs.length : Int)) = a at r1 ⊢
        generalize rd bs (Int.tmod (p * 7 + 3) (bs.length : Int)) = c at r2 ⊢
        have hq : 0 ≤ Int.tdiv p (bs.length : Int) ∧ Int.tdiv p (bs.length : Int) ≤ p := by
          rw [tdiv_pos h0]
          exact ⟨Int.ediv_nonneg h0 (by omega), Int.ediv_le_self _ h0⟩
        generalize Int.tdiv p (bs.length : Int) = q at hq ⊢
        have ea : wrap64 (wrap64 a * 131) = a * 131 := by rw [w64 (n := a) (by omega) (by omega), w64 (by omega) (by omega)]
        have ec : wrap64 (wrap64 c * 1117) = c * 1117 := by rw [w64 (n := c) (by omega) (by omega), w64 (by omega) (by omega)]
        have e29 : wrap64 (p * 29) = p * 29 := w64 (by omega) (by omega)
        have eq5 : wrap64 (wrap64 q * 53) = q * 53 := by rw [w64 (n := q) (by omega) (by omega), w64 (by omega) (by omega)]
        have ex : wrap64 (wrap64 (wrap64 (a * 131 + c * 1117) + p * 29) + q * 53) = a * 131 + c * 1117 + p * 29 + q * 53 := by
          rw [w64 (n := a * 131 + c * 1117) (by omega) (by omega), w64 (n := a * 131 + c * 1117 + p * 29) (by omega) (by omega), w64 (by omega) (by omega)]
        rw [ea, ec, e29, eq5, ex]
        generalize hx : a * 131 + c * 1117 + p * 29 + q * 53 = X
        have hX : 0 ≤ X ∧ X < 4611686018427387904 := by omega
        have hd : 0 ≤ Int.tdiv X 64 ∧ Int.tdiv X 64 ≤ X := by rw [tdiv_pos hX.1]; omega
        rw [w64 (n := Int.tdiv X 64) (by omega) (by omega)]
        have hz := xor_nonneg hX.1 hX.2 hd.1 (by omega)
        have := tmod_lo (b := n) hz.1 (by omega)
        exact ⟨this.1, fun _ => this.2, rfl⟩
  unfold spec_l6Rd_pick.f
  rw [hp]
  refine Evp.ite (fun hn1 => key true (fun h => by cases h)) (fun hn1 => key _ (fun hb => ⟨by omega, ?_⟩))
  intro hl
  rw [hl] at hb
  simp at hb
end Go.Proofs.Ytgmjolngnhdafaa.Kit

end
section

namespace Go.Proofs.Ytgmjolngnhdafaa.Kit
open Go Go.RowKit Go.Proofs.YtgmjolngnhdafaaW.PrintWords Go.Proofs.Ytgmjolngnhdafaa.P
set_option linter.unusedVariables false
abbrev Cls := S38
def sup (cs : List Cls) (i : Nat) : Int := (cs.getD i z38).f0
def flds (cs : List Cls) (i : Nat) : List Int := (cs.getD i z38).f1
def FieldTy (n : Nat) (t : Int) : Prop := t = 1 ∨ t = 3 ∨ t = 4 ∨ (8 ≤ t ∧ t < 8 + (n : Int))
structure ClsOk (cs : List Cls) : Prop where
  lo : 2 ≤ cs.length
  hi : cs.length ≤ 5
  root : sup cs 0 = -1 ∧ flds cs 0 = []
  fail : sup cs 1 = 0 ∧ flds cs 1 = [1]
  up : ∀ i, 2 ≤ i → i < cs.length → 0 ≤ sup cs i ∧ sup cs i < (i : Int) ∧ (flds cs i).length ≤ 2
  fld : ∀ i, i < cs.length → ∀ t ∈ flds cs i, FieldTy cs.length t
inductive Up (cs : List Cls) : Nat → Nat → Prop
  | refl (a : Nat) : Up cs a a
  | step {a b : Nat} (p : Nat) (hp : sup cs a = (p : Int)) (h : Up cs p b) : Up cs a b
theorem ClsOk.sup_pos {cs : List Cls} (h : ClsOk cs) {i : Nat} (h1 : 1 ≤ i) (h2 : i < cs.length) : 0 ≤ sup cs i ∧ sup cs i < (i : Int) := by
  rcases Nat.lt_or_ge i 2 with h3 | h3
  · have : i = 1 := by omega
    subst this
    rw [h.fail.1]
    decide
  · have := h.up i h3 h2
    exact ⟨this.1, this.2.1⟩
theorem ClsOk.sup_nat {cs : List Cls} (h : ClsOk cs) {i : Nat} (h1 : 1 ≤ i) (h2 : i < cs.length) : ∃ p : Nat, sup cs i = (p : Int) ∧ p < i := by
  obtain ⟨h3, h4⟩ := h.sup_pos h1 h2
  exact ⟨(sup cs i).toNat, by omega, by omega⟩
theorem ClsOk.len2 {cs : List Cls} (h : ClsOk cs) {i : Nat} (h2 : i < cs.length) : (flds cs i).length ≤ 2 := by
  rcases Nat.lt_or_ge i 2 with h3 | h3
  · rcases Nat.lt_or_ge i 1 with h4 | h4
    · have : i = 0 := by omega
      subst this
      rw [h.root.2]; decide
    · have : i = 1 := by omega
      subst this
      rw [h.fail.2]; decide
  · exact (h.up i h3 h2).2.2
theorem Up.trans {cs : List Cls} {a b c : Nat} (h1 : Up cs a b) (h2 : Up cs b c) : Up cs a c := by
  induction h1 with
  | refl => exact h2
  | step p hp _ ih => exact .step p hp (ih h2)
theorem Up.root {cs : List Cls} (h : ClsOk cs) : ∀ {a : Nat}, a < cs.length → Up cs a 0 := by
  intro a
  induction a using Nat.strongRecOn with
  | _ a ih =>
    intro ha
    rcases Nat.eq_zero_or_pos a with h0 | h0
    · subst h0; exact .refl 0
    · obtain ⟨p, hp, hlt⟩ := h.sup_nat h0 ha
      exact .step p hp (ih p hlt (by omega))
inductive Flds (cs : List Cls) : Nat → List Int → Prop
  | root : Flds cs 0 []
  | step {c : Nat} {l : List Int} (p : Nat) (hc : c ≠ 0) (hp : sup cs c = (p : Int)) (h : Flds cs p l) : Flds cs c (l ++ flds cs c)
theorem Flds.fn {cs : List Cls} {c : Nat} {l l' : List Int} (h : Flds cs c l) (h' : Flds cs c l') : l = l' := by
  induction h generalizing l' with
  | root =>
    cases h' with
    | root => rfl
    | step p hc _ _ => exact absurd rfl hc
  | step p hc hp _ ih =>
    cases h' with
    | root => exact absurd rfl hc
    | step q _ hq hl =>
      have : p = q := by omega
      subst this
      rw [ih hl]
theorem Flds.ex {cs : List Cls} (h : ClsOk cs) : ∀ {c : Nat}, c < cs.length → ∃ l, Flds cs c l ∧ l.length ≤ 2 * c := by
  intro c
  induction c using Nat.strongRecOn with
  | _ c ih =>
    intro hc
    rcases Nat.eq_zero_or_pos c with h0 | h0
    · subst h0; exact ⟨[], .root, by simp⟩
    · obtain ⟨p, hp, hlt⟩ := h.sup_nat h0 hc
      obtain ⟨l, hl, hn⟩ := ih p hlt (by omega)
      exact ⟨_, .step p (by omega) hp hl, by have := h.len2 hc; simp; omega⟩
theorem rdSup {cs : List Cls} (i : Nat) : (rd_T38 cs (i : Int)).f0 = sup cs i := rfl
theorem rdFlds {cs : List Cls} (i : Nat) : (rd_T38 cs (i : Int)).f1 = flds cs i := rfl
theorem rdInt {xs : List Int} {i : Nat} (h : i < xs.length) : rd xs (i : Int) = xs[i] := getD_at h _
def SmallC (cs : List Cls) : Prop := cs.length ≤ 1048576 ∧ ∀ i, i < cs.length → (flds cs i).length ≤ 1048576 ∧ (∀ t ∈ flds cs i, -9223372036854775808 ≤ t ∧ t ≤ 9223372036854775807)
theorem same_of {p : Prop} {a b : Bool} (ha : a = true ↔ p) (hb : b = true ↔ p) : a = b := by
  rw [Bool.eq_iff_iff, ha, hb]
theorem bne_no {a b : Bool} {p : Prop} (ha : a = true ↔ p) (hb : b = true ↔ p) : ¬ ((b != a) = true) := by
  rw [same_of hb ha]; simp
end Go.Proofs.Ytgmjolngnhdafaa.Kit

end
section

namespace Go.Proofs.Ytgmjolngnhdafaa.Kit
open Go Go.RowKit Go.Proofs.YtgmjolngnhdafaaW.PrintWords Go.Proofs.Ytgmjolngnhdafaa.P
set_option linter.unusedVariables false
def Few (l : List Int) : Prop := ∀ t ∈ l, -1000 ≤ t ∧ t ≤ 1000
theorem Few.nil : Few [] := by intro t ht; cases ht
theorem Few.snoc {l : List Int} {t : Int} (h : Few l) (h0 : -1000 ≤ t) (h1 : t ≤ 1000) : Few (l ++ [t]) := by
  intro x hx
  rcases List.mem_append.1 hx with hx | hx
  · exact h x hx
  · rw [List.mem_singleton.1 hx]; exact ⟨h0, h1⟩
def OkC (c : Nat) (x : Cls) : Prop := x.f1.length ≤ c ∧ Few x.f1
def Drawn (c m : Nat) (cs : List Cls) : Prop := 1 ≤ cs.length ∧ cs.length ≤ m ∧ ∀ x ∈ cs, OkC c x
theorem Drawn.mono {c c' m m' : Nat} {cs : List Cls} (h : Drawn c m cs) (hc : c ≤ c') (hm : m ≤ m') : Drawn c' m' cs := ⟨h.1, Nat.le_trans h.2.1 hm, fun x hx => ⟨Nat.le_trans (h.2.2 x hx).1 hc, (h.2.2 x hx).2⟩⟩
theorem Drawn.at {c m : Nat} {cs : List Cls} (h : Drawn c m cs) (i : Nat) : OkC c (cs.getD i z38) := by
  rw [List.getD_eq_getElem?_getD]
  by_cases hi : i < cs.length
  · rw [List.getElem?_eq_getElem hi]; exact h.2.2 _ (List.getElem_mem hi)
  · rw [List.getElem?_eq_none (by omega)]; exact ⟨Nat.zero_le _, Few.nil⟩
theorem Drawn.small {c m : Nat} {cs : List Cls} (h : Drawn c m cs) (hc : c ≤ 1048576) (hm : m ≤ 1048576) : SmallC cs := by
  refine ⟨Nat.le_trans h.2.1 hm, fun i hi => ?_⟩
  have := h.at i
  exact ⟨Nat.le_trans this.1 hc, fun t ht => by have := this.2 t ht; omega⟩
theorem Drawn.set {c m : Nat} {cs : List Cls} (h : Drawn c m cs) (i : Nat) {x : Cls} (hx : OkC c x) : Drawn c m (cs.set i x) := by
  refine ⟨by rw [List.length_set]; exact h.1, by rw [List.length_set]; exact h.2.1, fun y hy => ?_⟩
  rcases List.mem_or_eq_of_mem_set hy with h1 | h1
  · exact h.2.2 y h1
  · rw [h1]; exact hx
theorem Drawn.snoc {c m : Nat} {cs : List Cls} (h : Drawn c m cs) {x : Cls} (hx : OkC c x) : Drawn c (m + 1) (cs ++ [x]) := by
  refine ⟨by simp, by rw [List.length_append]; have := h.2.1; simp; omega, fun y hy => ?_⟩
  rcases List.mem_append.1 hy with h1 | h1
  · exact h.2.2 y h1
  · rw [List.mem_singleton.1 h1]; exact hx
theorem field_evp {bs : List Int} (h : Bytes bs) {p n : Int} (h0 : 0 ≤ p) (h1 : p ≤ 100000000) (hn : 1 ≤ n) (hn2 : n ≤ 100) :
    Evp (fun k => spec_l71Field.f k bs p n) (fun r => 1 ≤ r.1 ∧ r.1 < 8 + n ∧ p ≤ r.2 ∧ r.2 ≤ p + 2) := by
  unfold spec_l71Field.f
  refine Evp.bind (pick_evp h h0 (by omega) (by omega)) fun a ha => ?_
  have key : ∀ b : Bool, Evp (fun k => spec_l71Field.j0 k n a.1 b bs a.2) (fun r => 1 ≤ r.1 ∧ r.1 < 8 + n ∧ p ≤ r.2 ∧ r.2 ≤ p + 2) := by
    intro b
    refine Evp.step (f := fun k => _) (fun k => by rw [spec_l71Field.j0]) ?_
    refine Evp.ite (fun _ => Evp.pure _ (by dsimp only; omega)) (fun _ => Evp.ite (fun _ => Evp.pure _ (by dsimp only; omega)) (fun _ => Evp.ite (fun _ => Evp.pure _ (by dsimp only; omega)) (fun _ => ?_)))
    refine Evp.bind (pick_evp h (by omega) (by omega) (by omega)) fun c hc => Evp.pure _ ?_
    have := hc.2.1 hn
    dsimp only
    rw [w64 (by omega) (by omega)]
    omega
  exact Evp.ite (fun _ => key _) (fun _ => key _)
theorem classes_evp {bs : List Int} (h : Bytes bs) {p : Int} (h0 : 0 ≤ p) (h1 : p ≤ 10000000) :
    Evp (fun k => spec_l71Classes.f k bs p) (fun r => Drawn 3 5 r.1 ∧ 2 ≤ r.1.length ∧ p ≤ r.2 ∧ r.2 ≤ p + 100) := by
  unfold spec_l71Classes.f
  refine Evp.bind (pick_evp h h0 (by omega) (by omega)) fun a ha => ?_
  have ha2 := ha.2.1 (by omega)
  obtain ⟨n, hn⟩ : ∃ n : Nat, wrap64 (2 + a.1) = (n : Int) := ⟨(2 + a.1).toNat, by rw [w64 (by omega) (by omega)]; omega⟩
  rw [w64 (by omega) (by omega)] at hn
  rw [w64 (by omega) (by omega), hn]
  have k0 : ∀ d i : Nat, i + d = n → ∀ (cs : List Cls) (q : Int), Drawn 3 i cs → cs.length = i → 2 ≤ i → 0 ≤ q → q + 6 * (d : Int) ≤ 20000000 → Evp (fun k => spec_l71Classes.l0 k (n : Int) cs (i : Int) bs q) (fun r => Drawn 3 5 r.1 ∧ 2 ≤ r.1.length ∧ q ≤ r.2 ∧ r.2 ≤ q + 6 * d) := by
    intro d
    induction d with
    | zero =>
      intro i hi cs q hd hl h2 hq0 hq1
      refine Evp.step (f := fun k => _) (fun k => by rw [spec_l71Classes.l0]) (Evp.no (by omega) (Evp.pure _ ?_))
      exact ⟨hd.mono (by decide) (by omega), by dsimp only; omega, by dsimp only; omega, by dsimp only; omega⟩
    | succ d ih =>
      intro i hi cs q hd hl h2 hq0 hq1
      refine Evp.step (f := fun k => _) (fun k => by rw [spec_l71Classes.l0]) (Evp.yes (by omega) ?_)
      refine Evp.bind (pick_evp h hq0 (by omega) (by omega)) fun b hb => Evp.bind (pick_evp h (by omega) (by omega) (by omega)) fun c hc => ?_
      have hc2 := hc.2.1 (by omega)
      have k1 : ∀ j : Nat, ∀ (s : List Int) (q' : Int), s.length + j ≤ 2 → Few s → 0 ≤ q' → q' + 2 * (j : Int) + 6 * (d : Int) ≤ 20000000 → Evp (fun k => spec_l71Classes.l1 k (n : Int) cs (i : Int) (j : Int) bs q' b.1 s) (fun r => Drawn 3 5 r.1 ∧ 2 ≤ r.1.length ∧ q' ≤ r.2 ∧ r.2 ≤ q' + 2 * j + 6 * d) := by
        intro j
        induction j with
        | zero =>
          intro s q' hs hf hq0' hq1'
          refine Evp.step (f := fun k => _) (fun k => by rw [spec_l71Classes.l1]) (Evp.no (by omega) (Evp.yes (by omega) ?_))
          rw [w64' (n := n) (by omega) (by omega)]
          refine (ih (i + 1) (by omega) (cs ++ [⟨b.1, s⟩]) q' (hd.snoc ⟨by dsimp only; omega, hf⟩) (by simp; omega) (by omega) hq0' (by omega)).mono fun r hr => ?_
          exact ⟨hr.1, hr.2.1, hr.2.2.1, by omega⟩
        | succ j ihj =>
          intro s q' hs hf hq0' hq1'
          refine Evp.step (f := fun k => _) (fun k => by rw [spec_l71Classes.l1]) (Evp.yes (by omega) ?_)
          refine Evp.bind (field_evp h hq0' (by omega) (n := (n : Int)) (by omega) (by omega)) fun e he => Evp.yes (by omega) ?_
          rw [show wrap64 (((j + 1 : Nat) : Int) - 1) = (j : Int) by rw [w64 (by omega) (by omega)]; omega]
          refine (ihj (s ++ [e.1]) e.2 (by simp; omega) (hf.snoc (by omega) (by omega)) (by omega) (by omega)).mono fun r hr => ?_
          exact ⟨hr.1, hr.2.1, by omega, by omega⟩
      obtain ⟨j, hj⟩ : ∃ j : Nat, c.1 = (j : Int) := ⟨c.1.toNat, by omega⟩
      rw [hj]
      refine (k1 j [] c.2 (by simp; omega) Few.nil (by omega) (by omega)).mono fun r hr => ?_
      exact ⟨hr.1, hr.2.1, by omega, by omega⟩
  have hok : Drawn 3 2 ([(⟨-1, []⟩ : Cls), ⟨0, [1]⟩]) := by
    refine ⟨by decide, by decide, fun x hx => ?_⟩
    rcases List.mem_cons.1 hx with rfl | hx
    · exact ⟨Nat.zero_le _, Few.nil⟩
    · rw [List.mem_singleton.1 hx]
      exact ⟨by decide, Few.nil.snoc (by decide) (by decide)⟩
  refine Evp.mono (k0 (n - 2) 2 (by omega) _ a.2 hok rfl (by omega) (by omega) (by omega)) fun r hr => ?_
  exact ⟨hr.1, hr.2.1, by omega, by omega⟩
theorem off_evp {bs : List Int} (h : Bytes bs) {p : Int} (h0 : 0 ≤ p) (h1 : p ≤ 1000000) :
    Evp (fun k => spec_l71Off.f k bs p) (fun r => Drawn 4 9 r.1 ∧ p ≤ r.2 ∧ r.2 ≤ p + 110) := by
  unfold spec_l71Off.f
  refine Evp.bind (classes_evp h h0 (by omega)) fun a ha => Evp.bind (pick_evp h (by omega) (by omega) (by omega)) fun b hb => ?_
  have hd : Drawn 4 9 a.1 := ha.1.mono (by decide) (by decide)
  have hl := ha.2.1
  have hl5 := ha.1.2.1
  refine Evp.ite (fun _ => Evp.pure _ ⟨hd, by dsimp only; omega, by dsimp only; omega⟩) (fun _ => ?_)
  refine Evp.bind (pick_evp h (by omega) (by omega) (by omega)) fun c hc => Evp.bind (pick_evp h (by omega) (by omega) (by omega)) fun d hd' => ?_
  have hc2 := hc.2.1 (by omega)
  have at_ : ∀ i : Int, OkC 4 (rd_T38 a.1 i) := fun i => hd.at _
  refine Evp.ite (fun _ => ?_) (fun _ => Evp.ite (fun _ => ?_) (fun _ => Evp.ite (fun _ => ?_) (fun _ => Evp.ite (fun _ => ?_) (fun _ => Evp.ite (fun _ => ?_) (fun _ => ?_)))))
  · refine Evp.bind (pick_evp h (by omega) (by omega) (by omega)) fun e he => Evp.yes hc.1 (Evp.yes (by omega) (Evp.pure _ ⟨hd.set _ (at_ _), by dsimp only; omega, by dsimp only; omega⟩))
  · refine Evp.yes hc.1 (Evp.yes (by omega) ?_)
    simp only [Option.bind_some]
    refine Evp.bind (pick_evp h (by omega) (by omega) (by omega)) fun e he => ?_
    have he2 := he.2.1 (by omega)
    have hx : OkC 3 (rd_T38 a.1 c.1) := ha.1.at _
    refine Evp.yes he.1 (Evp.yes (by simp; omega) (Evp.yes (by have := hx.1; omega) (Evp.pure _ ⟨hd.set _ ⟨?_, ?_⟩, by dsimp only; omega, by dsimp only; omega⟩)))
    · have := hx.1
      simp
      omega
    · have key : ∀ e : Int, 0 ≤ e → e < 4 → -1000 ≤ rd [0, 2, 13, 5] e ∧ rd [0, 2, 13, 5] e ≤ 1000 := by
        intro e h0 h1
        have : e = 0 ∨ e = 1 ∨ e = 2 ∨ e = 3 := by omega
        rcases this with rfl | rfl | rfl | rfl <;> exact ⟨by decide, by decide⟩
      exact hx.2.snoc (key e.1 he.1 he2).1 (key e.1 he.1 he2).2
  · exact Evp.yes (by omega) (Evp.pure _ ⟨⟨by simp; omega, by simp; omega, fun x hx => hd.2.2 x (List.mem_of_mem_take hx)⟩, by dsimp only; omega, by dsimp only; omega⟩)
  · refine Evp.yes (by omega) ?_
    simp only [Option.bind_some]
    refine Evp.yes (by simp; omega) (Evp.pure _ ⟨⟨by simp, by simp; omega, fun x hx => ?_⟩, by dsimp only; omega, by dsimp only; omega⟩)
    rcases List.mem_append.1 hx with hx | hx
    · exact hd.2.2 x hx
    · have : x = rd_T38 a.1 1 := by
        simp only [List.mem_cons, List.not_mem_nil, or_false, or_self] at hx
        exact hx
      rw [this]; exact at_ 1
  · refine Evp.yes hc.1 (Evp.yes (by omega) (Evp.pure _ ⟨hd.set _ ⟨(by dsimp only; decide), ?_⟩, by dsimp only; omega, by dsimp only; omega⟩))
    intro t ht
    simp at ht
    omega
  · exact Evp.yes hc.1 (Evp.yes (by omega) (Evp.pure _ ⟨hd.set _ ⟨Nat.zero_le _, Few.nil⟩, by dsimp only; omega, by dsimp only; omega⟩))
end Go.Proofs.Ytgmjolngnhdafaa.Kit

end
section

namespace Go.Proofs.Ytgmjolngnhdafaa.P
open Go.RowKit Go.Proofs.YtgmjolngnhdafaaW.PrintWords Go.Proofs.YtgmjolngnhdafaaW.PrintLast Go.Proofs.YtgmjolngnhdafaaW.PrintMore
attribute [local go_sem] max2_int min2_int max_two min_two max_three min_three max_four min_four
set_option linter.unusedVariables false
set_option linter.unusedSimpArgs false
end Go.Proofs.Ytgmjolngnhdafaa.P

end
section

namespace Go.Proofs.Ytgmjolngnhdafaa.P
open Go.RowKit Go.Proofs.YtgmjolngnhdafaaW.PrintWords Go.Proofs.YtgmjolngnhdafaaW.PrintLast Go.Proofs.YtgmjolngnhdafaaW.PrintMore
attribute [local go_sem] max2_int min2_int max_two min_two max_three min_three max_four min_four
set_option linter.unusedVariables false
set_option linter.unusedSimpArgs false
end Go.Proofs.Ytgmjolngnhdafaa.P

end
section

namespace Go.Proofs.Ytgmjolngnhdafaa.P
open Go.RowKit Go.Proofs.YtgmjolngnhdafaaW.PrintWords Go.Proofs.YtgmjolngnhdafaaW.PrintLast Go.Proofs.YtgmjolngnhdafaaW.PrintMore
attribute [local go_sem] max2_int min2_int max_two min_two max_three min_three max_four min_four
set_option linter.unusedVariables false
set_option linter.unusedSimpArgs false
end Go.Proofs.Ytgmjolngnhdafaa.P

end
section

namespace Go.Proofs.Ytgmjolngnhdafaa.P
open Go.RowKit Go.Proofs.YtgmjolngnhdafaaW.PrintWords Go.Proofs.YtgmjolngnhdafaaW.PrintLast Go.Proofs.YtgmjolngnhdafaaW.PrintMore
attribute [local go_sem] max2_int min2_int max_two min_two max_three min_three max_four min_four
set_option linter.unusedVariables false
set_option linter.unusedSimpArgs false
end Go.Proofs.Ytgmjolngnhdafaa.P

end
section

namespace Go.Proofs.Ytgmjolngnhdafaa.P
open Go.RowKit Go.Proofs.YtgmjolngnhdafaaW.PrintWords Go.Proofs.YtgmjolngnhdafaaW.PrintLast Go.Proofs.YtgmjolngnhdafaaW.PrintMore
attribute [local go_sem] max2_int min2_int max_two min_two max_three min_three max_four min_four
set_option linter.unusedVariables false
set_option linter.unusedSimpArgs false
end Go.Proofs.Ytgmjolngnhdafaa.P

end
section

namespace Go.Proofs.Ytgmjolngnhdafaa.P
open Go.RowKit Go.Proofs.YtgmjolngnhdafaaW.PrintWords Go.Proofs.YtgmjolngnhdafaaW.PrintLast Go.Proofs.YtgmjolngnhdafaaW.PrintMore
attribute [local go_sem] max2_int min2_int max_two min_two max_three min_three max_four min_four
set_option linter.unusedVariables false
set_option linter.unusedSimpArgs false
end Go.Proofs.Ytgmjolngnhdafaa.P

end
section

namespace Go.Proofs.Ytgmjolngnhdafaa.Kit
open Go Go.RowKit Go.Proofs.YtgmjolngnhdafaaW.PrintWords Go.Proofs.Ytgmjolngnhdafaa.P
set_option linter.unusedVariables false
theorem in_eq (a lo hi : Int) : spec_l6In.f a lo hi = some (decide (lo ≤ a ∧ a ≤ hi)) := by
  unfold spec_l6In.f
  by_cases h : lo ≤ a <;> simp [h]
theorem kindOf_eq {n : Nat} {t : Int} (hn : n ≤ 1000000000) (h0 : -9223372036854775808 ≤ t) (h1 : t ≤ 9223372036854775807) :
    impl_kindOf.f (n : Int) t = some (if (0 ≤ t ∧ t ≤ 4) ∨ (8 ≤ t ∧ t < 8 + (n : Int)) then t else -1) := by
  unfold impl_kindOf.f
  rw [if_pos ⟨by omega, by omega, h0, h1⟩]
  repeat' split
  all_goals first | omega | (congr 1; omega) | rfl
theorem fieldType_eq {n : Nat} {t : Int} (hn : n ≤ 1000000000) (h0 : -9223372036854775808 ≤ t) (h1 : t ≤ 9223372036854775807) :
    ∃ b, impl_fieldType.f (n : Int) t = some b ∧ (b = true ↔ FieldTy n t) := by
  unfold impl_fieldType.f
  rw [kindOf_eq hn h0 h1, Option.bind_some]
  refine ⟨_, rfl, ?_⟩
  rw [decide_eq_true_iff]
  unfold FieldTy
  split <;> omega
theorem field_eq {cs : List Cls} {t : Int} (hn : cs.length ≤ 1000000000) : ∃ b, spec_l2Field.f cs t = some b ∧ (b = true ↔ FieldTy cs.length t) := by
  unfold spec_l2Field.f FieldTy
  rw [in_eq, w64 (n := 8 + (cs.length : Int)) (by omega) (by omega), w64 (by omega) (by omega)]
  by_cases h1 : t = 1
  · exact ⟨true, by rw [if_pos h1], by simp [h1]⟩
  rw [if_neg h1]
  by_cases h2 : t = 3
  · exact ⟨true, by rw [if_pos h2], by simp [h2]⟩
  rw [if_neg h2]
  by_cases h3 : t = 4
  · exact ⟨true, by rw [if_pos h3], by simp [h3]⟩
  rw [if_neg h3]
  refine ⟨_, rfl, ?_⟩
  simp only [h1, h2, h3, false_or, decide_eq_true_iff]
  omega
def Shp (cs : List Cls) (c : Nat) : Prop := (if c = 0 then sup cs 0 = -1 ∧ (flds cs 0).length = 0 else if c = 1 then sup cs 1 = 0 ∧ flds cs 1 = [1] else 0 ≤ sup cs c ∧ sup cs c < (c : Int) ∧ (flds cs c).length ≤ 2)
theorem shp0 {cs : List Cls} : Shp cs 0 ↔ sup cs 0 = -1 ∧ (flds cs 0).length = 0 := by unfold Shp; rw [if_pos rfl]
theorem shp1 {cs : List Cls} : Shp cs 1 ↔ sup cs 1 = 0 ∧ flds cs 1 = [1] := by unfold Shp; rw [if_neg (by decide), if_pos rfl]
theorem shp2 {cs : List Cls} {c : Nat} (h : 2 ≤ c) : Shp cs c ↔ 0 ≤ sup cs c ∧ sup cs c < (c : Int) ∧ (flds cs c).length ≤ 2 := by unfold Shp; rw [if_neg (by omega), if_neg (by omega)]
def At (cs : List Cls) (c : Nat) : Prop := (∀ t ∈ flds cs c, FieldTy cs.length t) ∧ Shp cs c
theorem clsOk_iff {cs : List Cls} : ClsOk cs ↔ 2 ≤ cs.length ∧ cs.length ≤ 5 ∧ ∀ c, c < cs.length → At cs c := by
  constructor
  · intro h
    refine ⟨h.lo, h.hi, fun c hc => ⟨h.fld c hc, ?_⟩⟩
    rcases Nat.lt_or_ge c 2 with h2 | h2
    · rcases Nat.lt_or_ge c 1 with h1 | h1
      · have : c = 0 := by omega
        subst this
        exact shp0.2 ⟨h.root.1, by rw [h.root.2]; rfl⟩
      · have : c = 1 := by omega
        subst this
        exact shp1.2 h.fail
    · exact (shp2 h2).2 (h.up c h2 hc)
  · intro ⟨h1, h2, h3⟩
    have a0 := shp0.1 (h3 0 (by omega)).2
    have a1 := shp1.1 (h3 1 (by omega)).2
    exact ⟨h1, h2, ⟨a0.1, List.eq_nil_of_length_eq_zero a0.2⟩, a1, fun i hi hl => (shp2 hi).1 (h3 i hl).2, fun i hi => (h3 i hi).1⟩
theorem spec_class {cs : List Cls} (hs : SmallC cs) {c : Nat} (hc : c < cs.length) : Evp (fun k => spec_l2Class.f k cs (c : Int)) (fun r => r = true ↔ At cs c) := by
  unfold spec_l2Class.f
  refine Evp.yes (by omega) (Evp.yes (by omega) ?_)
  rw [rdSup, rdFlds]
  have hl := (hs.2 c hc).1
  have hl0 := hs.1
  have key : ∀ i, i ≤ (flds cs c).length → Evp (fun k => spec_l2Class.l0 k cs (c : Int) (i : Int) (sup cs c) (flds cs c)) (fun r => r = true ↔ (∀ t ∈ (flds cs c).drop i, FieldTy cs.length t) ∧ Shp cs c) := by
    refine Evp.for_ ?_ (fun i hi ih => ?_)
    · refine Evp.step (f := fun k => _) (fun k => by rw [spec_l2Class.l0, in_eq]) (Evp.no (by omega) ?_)
      rw [List.drop_length]
      simp only [List.not_mem_nil, false_implies, implies_true, true_and]
      refine Evp.ite (fun h0 => ?_) (fun h0 => ?_)
      · have : c = 0 := by omega
        subst this
        rw [shp0]
        refine Evp.ite (fun h => Evp.pure _ ?_) (fun h => Evp.pure _ (by simp [h]))
        rw [beq_iff_eq]
        constructor
        · intro h2; exact ⟨h, by omega⟩
        · intro h2; omega
      · refine Evp.ite (fun h1 => ?_) (fun h1 => ?_)
        · have : c = 1 := by omega
          subst this
          rw [shp1]
          refine Evp.ite (fun h => ?_) (fun h => Evp.pure _ (by simp [h]))
          refine Evp.ite (fun h2 => ?_) (fun h2 => Evp.pure _ ?_)
          · refine Evp.yes (by omega) (Evp.pure _ ?_)
            obtain ⟨x, hx⟩ := List.length_eq_one_iff.1 (by omega : (flds cs 1).length = 1)
            rw [hx, show rd [x] 0 = x from rfl, beq_iff_eq]
            simp [h]
          · constructor
            · intro h3; cases h3
            · intro h3; rw [h3.2] at h2; exact absurd rfl h2
        · rw [shp2 (by omega)]
          refine Evp.congr (f := fun k => if 0 ≤ sup cs c ∧ sup cs c ≤ (c : Int) - 1 then some (decide (((flds cs c).length : Int) ≤ 2)) else some false) (fun k => by rw [w64 (n := (c : Int) - 1) (by omega) (by omega), Option.bind_some]; simp only [decide_eq_true_iff]) ?_
          refine Evp.ite (fun h => Evp.pure _ ?_) (fun h => Evp.pure _ ?_)
          · simp only [decide_eq_true_iff]
            omega
          · constructor
            · intro h3; cases h3
            · intro h3; omega
    · obtain ⟨b, hb, hb2⟩ := field_eq (cs := cs) (t := (flds cs c)[i]) (by omega)
      refine Evp.step (f := fun k => _) (fun k => by rw [spec_l2Class.l0, rdInt hi, hb, Option.bind_some]) (Evp.yes (by omega) (Evp.yes (by omega) ?_))
      rw [w64' hi (by omega), drop_at hi]
      refine Evp.ite (fun h => ih.mono fun r hr => ?_) (fun h => Evp.pure _ ?_)
      · rw [hr, List.forall_mem_cons]
        exact ⟨fun h2 => ⟨⟨hb2.1 h, h2.1⟩, h2.2⟩, fun h2 => ⟨h2.1.2, h2.2⟩⟩
      · rw [List.forall_mem_cons]
        exact ⟨fun h2 => (by cases h2), fun h2 => absurd (hb2.2 h2.1.1) h⟩
  exact key 0 (Nat.zero_le _)
theorem spec_classesOk {cs : List Cls} (hs : SmallC cs) : Evp (fun k => spec_ClassesOk.f k cs) (fun r => r = true ↔ ClsOk cs) := by
  have hl0 := hs.1
  unfold spec_ClassesOk.f
  rw [in_eq]
  simp only [Option.bind_some]
  refine Evp.ite (fun h => ?_) (fun h => Evp.pure _ ?_)
  · simp only [decide_eq_true_iff] at h
    have key : ∀ i, i ≤ cs.length → Evp (fun k => spec_ClassesOk.l0 k cs (i : Int)) (fun r => r = true ↔ ∀ c, i ≤ c → c < cs.length → At cs c) := by
      refine Evp.for_ ?_ (fun i hi ih => ?_)
      · refine Evp.step (f := fun k => _) (fun k => by rw [spec_ClassesOk.l0]) (Evp.no (by omega) (Evp.pure _ ?_))
        simp only [true_iff]
        intro c h1 h2; omega
      · refine Evp.step (f := fun k => _) (fun k => by rw [spec_ClassesOk.l0]) (Evp.yes (by omega) ?_)
        refine Evp.bind (spec_class hs hi) fun b hb => ?_
        rw [w64' hi (by omega)]
        refine Evp.ite (fun h1 => ih.mono fun r hr => ?_) (fun h1 => Evp.pure _ ?_)
        · rw [hr]
          constructor
          · intro h2 c h3 h4
            rcases Nat.lt_or_ge i c with h5 | h5
            · exact h2 c h5 h4
            · have : c = i := by omega
              subst this
              exact hb.1 h1
          · intro h2 c h3 h4; exact h2 c (by omega) h4
        · constructor
          · intro h2; cases h2
          · intro h2; exact absurd (hb.2 (h2 i (Nat.le_refl _) hi)) h1
    refine (key 0 (Nat.zero_le _)).mono fun r hr => ?_
    rw [hr, clsOk_iff]
    constructor
    · intro h2; exact ⟨by omega, by omega, fun c hc => h2 c (Nat.zero_le _) hc⟩
    · intro h2 c _ hc; exact h2.2.2 c hc
  · simp only [decide_eq_true_iff] at h
    constructor
    · intro h2; cases h2
    · intro h2; have := h2.lo; have := h2.hi; omega
theorem impl_classesOk {cs : List Cls} (hs : SmallC cs) : Evp (fun k => impl_ClassesOk.f k cs) (fun r => r = true ↔ ClsOk cs) := by
  have hl0 := hs.1
  have no : ∀ {p : Prop}, ¬ p → ((false = true) ↔ p) := fun h => ⟨fun h2 => (by cases h2), fun h2 => absurd h2 h⟩
  have jno : ¬ (2 ≤ cs.length ∧ cs.length ≤ 5) → Evp (fun k => impl_ClassesOk.j0 k cs true) (fun r => r = true ↔ ClsOk cs) := fun h =>
    Evp.step (f := fun k => _) (fun k => by rw [impl_ClassesOk.j0]) (Evp.yes rfl (Evp.pure _ (no fun h2 => h ⟨h2.lo, h2.hi⟩)))
  unfold impl_ClassesOk.f
  refine Evp.ite (fun h => jno (by omega)) (fun h => ?_)
  by_cases h5 : ¬ cs.length ≤ 5
  · rw [decide_eq_true (by omega)]; exact jno (by omega)
  rw [decide_eq_false (by omega)]
  have h2 : 2 ≤ cs.length := by omega

  have loop : (sup cs 0 = -1 ∧ flds cs 0 = []) → (sup cs 1 = 0 ∧ flds cs 1 = [1]) → ∀ i, i ≤ cs.length → Evp (fun k => impl_ClassesOk.l0 k cs cs (cs.length : Int) (i : Int)) (fun r => r = true ↔ ∀ c, i ≤ c → c < cs.length → At cs c) := by
    intro hr hf
    refine Evp.for_ ?_ (fun i hi ih => ?_)
    · refine Evp.step (f := fun k => _) (fun k => by rw [impl_ClassesOk.l0]) (Evp.no (by omega) (Evp.pure _ ?_))
      simp only [true_iff]
      intro c h1 h2; omega
    · have ih2 : At cs i → ∀ r : Bool, (r = true ↔ ∀ c, i + 1 ≤ c → c < cs.length → At cs c) → (r = true ↔ ∀ c, i ≤ c → c < cs.length → At cs c) := by
        intro ha r hr
        rw [hr]
        constructor
        · intro h2 c h3 h4
          rcases Nat.lt_or_ge i c with h5 | h5
          · exact h2 c h5 h4
          · have : c = i := by omega
            subst this
            exact ha
        · intro h2 c h3 h4; exact h2 c (by omega) h4
      have hno : ¬ At cs i → ((false = true) ↔ ∀ c, i ≤ c → c < cs.length → At cs c) := fun h => no fun h2 => h (h2 i (Nat.le_refl _) hi)
      have hl := (hs.2 i hi).1
      have hb := (hs.2 i hi).2

      have fl : Shp cs i →
          ∀ j, j ≤ (flds cs i).length → (∀ t ∈ (flds cs i).take j, FieldTy cs.length t) → Evp (fun k => impl_ClassesOk.l1 k cs cs (cs.length : Int) (i : Int) (flds cs i) ((flds cs i).length : Int) (j : Int)) (fun r => r = true ↔ ∀ c, i ≤ c → c < cs.length → At cs c) := by
        intro hc
        have key : ∀ j, j ≤ (flds cs i).length → ∀ _ : Unit, (∀ t ∈ (flds cs i).take j, FieldTy cs.length t) → Evp (fun k => impl_ClassesOk.l1 k cs cs (cs.length : Int) (i : Int) (flds cs i) ((flds cs i).length : Int) (j : Int)) (fun r => r = true ↔ ∀ c, i ≤ c → c < cs.length → At cs c) := by
          refine Evp.fors (g := fun j (_ : Unit) k => impl_ClassesOk.l1 k cs cs (cs.length : Int) (i : Int) (flds cs i) ((flds cs i).length : Int) (j : Int)) (I := fun j _ => ∀ t ∈ (flds cs i).take j, FieldTy cs.length t) (R := fun _ _ r => r = true ↔ ∀ c, i ≤ c → c < cs.length → At cs c) (fun _ hI => ?_) (fun j hj ihj _ hI => ?_)
          · refine Evp.step (f := fun k => _) (fun k => by rw [impl_ClassesOk.l1]) (Evp.no (by omega) ?_)
            rw [w64' hi (by omega)]
            refine ih.mono (ih2 ⟨?_, hc⟩)
            simpa using hI
          · obtain ⟨b, hb1, hb2⟩ := fieldType_eq (n := cs.length) (t := (flds cs i)[j]) (by omega) (hb _ (List.getElem_mem hj)).1 (hb _ (List.getElem_mem hj)).2
            refine Evp.step (f := fun k => _) (fun k => by rw [impl_ClassesOk.l1, rdInt hj, hb1, Option.bind_some]) (Evp.yes (by omega) (Evp.yes (by omega) (Evp.yes (by omega) ?_)))
            rw [w64' hj (by omega)]
            refine Evp.ite (fun h => ihj () ?_) (fun h => Evp.pure _ (hno ?_))
            · rw [List.take_succ_eq_append_getElem hj]
              intro t ht
              rcases List.mem_append.1 ht with ht | ht
              · exact hI t ht
              · rw [List.mem_singleton.1 ht]; exact hb2.1 h
            · intro ha; exact h (hb2.2 (ha.1 _ (List.getElem_mem hj)))
        exact fun j hj => key j hj ()
      have j4 : ∀ b : Bool, (b = true ↔ 2 ≤ i ∧ ¬ (0 ≤ sup cs i ∧ sup cs i < (i : Int))) → Evp (fun k => impl_ClassesOk.j4 k cs cs (cs.length : Int) (i : Int) b (sup cs i) (flds cs i)) (fun r => r = true ↔ ∀ c, i ≤ c → c < cs.length → At cs c) := by
        intro b hb4
        refine Evp.step (f := fun k => _) (fun k => by rw [impl_ClassesOk.j4]) ?_
        refine Evp.ite (fun h => Evp.pure _ (hno ?_)) (fun h => ?_)
        · intro ha
          have h6 := hb4.1 h
          have := (shp2 h6.1).1 ha.2
          omega
        · have h6 : ¬ (2 ≤ i ∧ ¬ (0 ≤ sup cs i ∧ sup cs i < (i : Int))) := fun h7 => h (hb4.2 h7)
          refine Evp.ite (fun h7 => Evp.pure _ (hno ?_)) (fun h7 => fl ?_ 0 (Nat.zero_le _) (by simp))
          · intro ha
            rcases Nat.lt_or_ge i 2 with h8 | h8
            · rcases Nat.lt_or_ge i 1 with h9 | h9
              · have : i = 0 := by omega
                subst this
                have := (shp0.1 ha.2).2
                omega
              · have : i = 1 := by omega
                subst this
                rw [hf.2] at h7; exact absurd h7 (by decide)
            · have := (shp2 h8).1 ha.2
              omega
          · rcases Nat.lt_or_ge i 2 with h8 | h8
            · rcases Nat.lt_or_ge i 1 with h9 | h9
              · have : i = 0 := by omega
                subst this
                exact shp0.2 ⟨hr.1, by rw [hr.2]; rfl⟩
              · have : i = 1 := by omega
                subst this
                exact shp1.2 hf
            · exact (shp2 h8).2 (by omega)
      refine Evp.step (f := fun k => _) (fun k => by rw [impl_ClassesOk.l0, rdSup, rdFlds]) (Evp.yes (by omega) (Evp.yes (by omega) (Evp.yes (by omega) ?_)))
      refine Evp.ite (fun h => Evp.ite (fun h8 => j4 _ ?_) (fun h8 => j4 _ ?_)) (fun h => j4 _ ?_)
      · simp; omega
      · rw [decide_eq_true_iff]; omega
      · simp; omega
  have done : (sup cs 0 = -1 ∧ flds cs 0 = []) → (sup cs 1 = 0 ∧ flds cs 1 = [1]) → Evp (fun k => impl_ClassesOk.l0 k cs cs (cs.length : Int) 0) (fun r => r = true ↔ ClsOk cs) := by
    intro hr hf
    refine (loop hr hf 0 (Nat.zero_le _)).mono fun r hr2 => ?_
    rw [hr2, clsOk_iff]
    constructor
    · intro h3; exact ⟨by omega, by omega, fun c hc => h3 c (Nat.zero_le _) hc⟩
    · intro h3 c _ hc; exact h3.2.2 c hc
  have j2 : (sup cs 0 = -1 ∧ flds cs 0 = []) → ∀ b : Bool, (b = false ↔ (sup cs 1 = 0 ∧ flds cs 1 = [1])) → Evp (fun k => impl_ClassesOk.j2 k cs b) (fun r => r = true ↔ ClsOk cs) := by
    intro hr b hb
    refine Evp.step (f := fun k => _) (fun k => by rw [impl_ClassesOk.j2]) ?_
    refine Evp.ite (fun h => Evp.pure _ (no fun h3 => ?_)) (fun h => done hr (hb.1 (by simpa using h)))
    have := hb.2 h3.fail
    rw [h] at this; cases this
  have j1 : ∀ b : Bool, (b = false ↔ (sup cs 0 = -1 ∧ flds cs 0 = [])) → Evp (fun k => impl_ClassesOk.j1 k cs b) (fun r => r = true ↔ ClsOk cs) := by
    intro b hb
    refine Evp.step (f := fun k => _) (fun k => by rw [impl_ClassesOk.j1, show (1 : Int) = ((1 : Nat) : Int) from rfl, rdSup, rdFlds]) ?_
    refine Evp.ite (fun h => Evp.pure _ (no fun h3 => ?_)) (fun h => ?_)
    · have := hb.2 h3.root
      rw [h] at this; cases this
    · have hr := hb.1 (by simpa using h)
      refine Evp.yes (by omega) (Evp.ite (fun h1 => Evp.ite (fun h3 => Evp.yes (by omega) (j2 hr _ ?_)) (fun h3 => j2 hr _ ?_)) (fun h1 => j2 hr _ ?_))
      · obtain ⟨x, hx⟩ := List.length_eq_one_iff.1 (by omega : (flds cs 1).length = 1)
        rw [hx, show rd [x] 0 = x from rfl]
        simp [h1]
      · constructor
        · intro h4; cases h4
        · intro h4; rw [h4.2] at h3; exact absurd rfl h3
      · constructor
        · intro h4; cases h4
        · intro h4; exact absurd h4.1 h1
  refine Evp.step (f := fun k => _) (fun k => by rw [impl_ClassesOk.j0, show (0 : Int) = ((0 : Nat) : Int) from rfl, rdSup, rdFlds]) (Evp.no (by decide) (Evp.yes (by omega) ?_))
  refine Evp.ite (fun h1 => j1 _ ?_) (fun h1 => j1 _ ?_)
  · constructor
    · intro h3
      have : (flds cs 0).length = 0 := by simpa using h3
      exact ⟨h1, List.eq_nil_of_length_eq_zero this⟩
    · intro h3; rw [h3.2]; rfl
  · constructor
    · intro h3; cases h3
    · intro h3; exact absurd h3.1 h1
end Go.Proofs.Ytgmjolngnhdafaa.Kit

end
section

namespace Go.Proofs.Ytgmjolngnhdafaa.P
open Go Go.RowKit Go.Proofs.YtgmjolngnhdafaaW.PrintWords
def KindOk (r : Int) : Prop := (0 ≤ r ∧ r ≤ 4) ∨ (8 ≤ r ∧ r ≤ 2000000000)
instance (r : Int) : Decidable (KindOk r) := by unfold KindOk; infer_instance
end Go.Proofs.Ytgmjolngnhdafaa.P

end
section

namespace Go.Proofs.Ytgmjolngnhdafaa.P
open Go.RowKit Go.Proofs.YtgmjolngnhdafaaW.PrintWords Go.Proofs.YtgmjolngnhdafaaW.PrintLast Go.Proofs.YtgmjolngnhdafaaW.PrintMore
attribute [local go_sem] max2_int min2_int max_two min_two max_three min_three max_four min_four
set_option linter.unusedVariables false
set_option linter.unusedSimpArgs false
end Go.Proofs.Ytgmjolngnhdafaa.P

end
section

namespace Go.Proofs.Ytgmjolngnhdafaa.P
open Go.RowKit Go.Proofs.YtgmjolngnhdafaaW.PrintWords Go.Proofs.YtgmjolngnhdafaaW.PrintLast Go.Proofs.YtgmjolngnhdafaaW.PrintMore
attribute [local go_sem] max2_int min2_int max_two min_two max_three min_three max_four min_four
set_option linter.unusedVariables false
set_option linter.unusedSimpArgs false
end Go.Proofs.Ytgmjolngnhdafaa.P

end
section

namespace Go.Proofs.Ytgmjolngnhdafaa.P
open Go.RowKit Go.Proofs.YtgmjolngnhdafaaW.PrintWords Go.Proofs.YtgmjolngnhdafaaW.PrintLast Go.Proofs.YtgmjolngnhdafaaW.PrintMore
attribute [local go_sem] max2_int min2_int max_two min_two max_three min_three max_four min_four
set_option linter.unusedVariables false
set_option linter.unusedSimpArgs false
end Go.Proofs.Ytgmjolngnhdafaa.P

end
section

namespace Go.Proofs.Ytgmjolngnhdafaa.P
open Go.RowKit Go.Proofs.YtgmjolngnhdafaaW.PrintWords Go.Proofs.YtgmjolngnhdafaaW.PrintLast Go.Proofs.YtgmjolngnhdafaaW.PrintMore
attribute [local go_sem] max2_int min2_int max_two min_two max_three min_three max_four min_four
set_option linter.unusedVariables false
set_option linter.unusedSimpArgs false
end Go.Proofs.Ytgmjolngnhdafaa.P

end
section

namespace Go.Proofs.Ytgmjolngnhdafaa.P
open Go.RowKit Go.Proofs.YtgmjolngnhdafaaW.PrintWords Go.Proofs.YtgmjolngnhdafaaW.PrintLast Go.Proofs.YtgmjolngnhdafaaW.PrintMore
attribute [local go_sem] max2_int min2_int max_two min_two max_three min_three max_four min_four
set_option linter.unusedVariables false
set_option linter.unusedSimpArgs false
end Go.Proofs.Ytgmjolngnhdafaa.P

end
section

namespace Go.Proofs.Ytgmjolngnhdafaa.P
open Go.RowKit Go.Proofs.YtgmjolngnhdafaaW.PrintWords Go.Proofs.YtgmjolngnhdafaaW.PrintLast Go.Proofs.YtgmjolngnhdafaaW.PrintMore
attribute [local go_sem] max2_int min2_int max_two min_two max_three min_three max_four min_four
set_option linter.unusedVariables false
set_option linter.unusedSimpArgs false
end Go.Proofs.Ytgmjolngnhdafaa.P

end
section

namespace Go.Proofs.Ytgmjolngnhdafaa.Kit
open Go Go.RowKit Go.Proofs.YtgmjolngnhdafaaW.PrintWords Go.Proofs.Ytgmjolngnhdafaa.P
set_option linter.unusedVariables false
theorem iff_no {p : Prop} (h : ¬ p) : (false = true) ↔ p := ⟨fun h2 => (by cases h2), fun h2 => absurd h2 h⟩
theorem iff_yes {p : Prop} (h : p) : (true = true) ↔ p := ⟨fun _ => h, fun _ => rfl⟩
def TyOk (n : Nat) (t : Int) : Prop := t = 0 ∨ t = 2 ∨ FieldTy n t
theorem tyOk_iff {n : Nat} {t : Int} : TyOk n t ↔ (0 ≤ t ∧ t ≤ 4) ∨ (8 ≤ t ∧ t < 8 + (n : Int)) := by
  unfold TyOk FieldTy
  omega
theorem kindOf_ty {n : Nat} {t : Int} (hn : n ≤ 1000000000) (h0 : -9223372036854775808 ≤ t) (h1 : t ≤ 9223372036854775807) :
    ∃ r, impl_kindOf.f (n : Int) t = some r ∧ (TyOk n t ∧ r = t ∨ ¬ TyOk n t ∧ r = -1) := by
  refine ⟨_, kindOf_eq hn h0 h1, ?_⟩
  rw [tyOk_iff]
  by_cases h : (0 ≤ t ∧ t ≤ 4) ∨ (8 ≤ t ∧ t < 8 + (n : Int))
  · rw [if_pos h]; exact .inl ⟨h, rfl⟩
  · rw [if_neg h]; exact .inr ⟨h, rfl⟩
theorem spec_typeOk {cs : List Cls} (hs : SmallC cs) (t : Int) : Evp (fun k => spec_TypeOk.f k cs t) (fun r => r = true ↔ ClsOk cs ∧ TyOk cs.length t) := by
  have hl0 := hs.1
  unfold spec_TypeOk.f
  refine Evp.bind (spec_classesOk hs) fun b hb => Evp.ite (fun h => ?_) (fun h => Evp.pure _ (iff_no fun h2 => h (hb.2 h2.1)))
  refine Evp.ite (fun h0 => Evp.pure _ (iff_yes ⟨hb.1 h, .inl h0⟩)) (fun h0 => Evp.ite (fun h2 => Evp.pure _ (iff_yes ⟨hb.1 h, .inr (.inl h2)⟩)) (fun h2 => ?_))
  obtain ⟨c, hc, hc2⟩ := field_eq (cs := cs) (t := t) (by omega)
  simp only [hc, Option.bind_some]
  refine Evp.pure _ (hc2.trans ⟨fun h3 => ⟨hb.1 h, .inr (.inr h3)⟩, fun h3 => ?_⟩)
  rcases h3.2 with h4 | h4 | h4
  · exact absurd h4 h0
  · exact absurd h4 h2
  · exact h4
end Go.Proofs.Ytgmjolngnhdafaa.Kit

end
section

namespace Go.Proofs.Ytgmjolngnhdafaa.Kit
open Go Go.RowKit Go.Proofs.YtgmjolngnhdafaaW.PrintWords Go.Proofs.Ytgmjolngnhdafaa.P
end Go.Proofs.Ytgmjolngnhdafaa.Kit

end
section

namespace Go.Proofs.Ytgmjolngnhdafaa.P
open Go.RowKit Go.Proofs.YtgmjolngnhdafaaW.PrintWords Go.Proofs.YtgmjolngnhdafaaW.PrintLast Go.Proofs.YtgmjolngnhdafaaW.PrintMore
attribute [local go_sem] max2_int min2_int max_two min_two max_three min_three max_four min_four
set_option linter.unusedVariables false
set_option linter.unusedSimpArgs false
end Go.Proofs.Ytgmjolngnhdafaa.P

end
section

namespace Go.Proofs.Ytgmjolngnhdafaa.P
open Go.RowKit Go.Proofs.YtgmjolngnhdafaaW.PrintWords Go.Proofs.YtgmjolngnhdafaaW.PrintLast Go.Proofs.YtgmjolngnhdafaaW.PrintMore
attribute [local go_sem] max2_int min2_int max_two min_two max_three min_three max_four min_four
set_option linter.unusedVariables false
set_option linter.unusedSimpArgs false
end Go.Proofs.Ytgmjolngnhdafaa.P

end
section

namespace Go.Proofs.Ytgmjolngnhdafaa.Kit
open Go Go.RowKit Go.Proofs.YtgmjolngnhdafaaW.PrintWords Go.Proofs.Ytgmjolngnhdafaa.P
set_option linter.unusedVariables false
end Go.Proofs.Ytgmjolngnhdafaa.Kit

end
section

namespace Go.Proofs.Ytgmjolngnhdafaa.P
open Go.RowKit Go.Proofs.YtgmjolngnhdafaaW.PrintWords Go.Proofs.YtgmjolngnhdafaaW.PrintLast Go.Proofs.YtgmjolngnhdafaaW.PrintMore
attribute [local go_sem] max2_int min2_int max_two min_two max_three min_three max_four min_four
set_option linter.unusedVariables false
set_option linter.unusedSimpArgs false
end Go.Proofs.Ytgmjolngnhdafaa.P

end
section

namespace Go.Proofs.Ytgmjolngnhdafaa.Kit
open Go Go.RowKit Go.Proofs.YtgmjolngnhdafaaW.PrintWords Go.Proofs.Ytgmjolngnhdafaa.P
set_option linter.unusedVariables false
theorem type_evp {bs : List Int} (h : Bytes bs) {p n : Int} (h0 : 0 ≤ p) (h1 : p ≤ 50000000) (hn : 1 ≤ n) (hn2 : n ≤ 100) :
    Evp (fun k => spec_l71Type.f k bs p n) (fun r => (-1 ≤ r.1 ∧ r.1 ≤ 8 + n) ∧ p ≤ r.2 ∧ r.2 ≤ p + 4) := by
  unfold spec_l71Type.f
  have fld : ∀ q : Int, p ≤ q → q ≤ p + 2 → Evp (fun k => (spec_l71Field.f k bs q n).bind fun bt => some (bt.1, bt.2)) (fun r => (-1 ≤ r.1 ∧ r.1 ≤ 8 + n) ∧ p ≤ r.2 ∧ r.2 ≤ p + 4) := by
    intro q hq hq2
    refine Evp.bind (field_evp h (by omega) (by omega) hn hn2) fun a ha => Evp.pure _ ⟨⟨?_, ?_⟩, ?_, ?_⟩ <;> dsimp only <;> omega
  refine Evp.bind (pick_evp h h0 (by omega) (by omega)) fun a ha => ?_
  have ha2 := ha.2.2
  refine Evp.ite (fun _ => Evp.pure _ ⟨⟨by dsimp only; omega, by dsimp only; omega⟩, by dsimp only; omega, by dsimp only; omega⟩) (fun _ => ?_)
  refine Evp.ite (fun _ => Evp.pure _ ⟨⟨by dsimp only; omega, by dsimp only; omega⟩, by dsimp only; omega, by dsimp only; omega⟩) (fun _ => ?_)
  refine Evp.ite (fun _ => ?_) (fun _ => fld _ (by omega) (by omega))
  refine Evp.bind (pick_evp h (by omega) (by omega) (by omega)) fun b hb => ?_
  have hb2 := hb.2.2
  refine Evp.ite (fun _ => ?_) (fun _ => fld _ (by omega) (by omega))
  simp only [Option.bind_some]
  refine Evp.bind (pick_evp h (by omega) (by omega) (by omega)) fun c hc => ?_
  have hc1 := hc.2.1 (by omega)
  refine Evp.yes hc.1 (Evp.yes (by simp; omega) (Evp.pure _ ⟨?_, by dsimp only; omega, by dsimp only; omega⟩))
  have : c.1 = 0 ∨ c.1 = 1 ∨ c.1 = 2 ∨ c.1 = 3 := by omega
  rw [w64 (by omega) (by omega)]
  show -1 ≤ rd [-1, 5, 7, 8 + n] c.1 ∧ rd [-1, 5, 7, 8 + n] c.1 ≤ 8 + n
  rcases this with e | e | e | e <;> rw [e]
  · show (-1 : Int) ≤ -1 ∧ (-1 : Int) ≤ 8 + n; omega
  · show (-1 : Int) ≤ 5 ∧ (5 : Int) ≤ 8 + n; omega
  · show (-1 : Int) ≤ 7 ∧ (7 : Int) ≤ 8 + n; omega
  · show (-1 : Int) ≤ 8 + n ∧ (8 : Int) + n ≤ 8 + n; omega
end Go.Proofs.Ytgmjolngnhdafaa.Kit

end
section

namespace Go.Proofs.Ytgmjolngnhdafaa.P
open Go.RowKit Go.Proofs.YtgmjolngnhdafaaW.PrintWords Go.Proofs.YtgmjolngnhdafaaW.PrintLast Go.Proofs.YtgmjolngnhdafaaW.PrintMore
attribute [local go_sem] max2_int min2_int max_two min_two max_three min_three max_four min_four
set_option linter.unusedVariables false
set_option linter.unusedSimpArgs false
end Go.Proofs.Ytgmjolngnhdafaa.P

end
section

namespace Go.Proofs.Ytgmjolngnhdafaa.P
open Go.RowKit Go.Proofs.YtgmjolngnhdafaaW.PrintWords Go.Proofs.YtgmjolngnhdafaaW.PrintLast Go.Proofs.YtgmjolngnhdafaaW.PrintMore
attribute [local go_sem] max2_int min2_int max_two min_two max_three min_three max_four min_four
set_option linter.unusedVariables false
set_option linter.unusedSimpArgs false
end Go.Proofs.Ytgmjolngnhdafaa.P

end
section

namespace Go.Proofs.Ytgmjolngnhdafaa.P
open Go.RowKit Go.Proofs.YtgmjolngnhdafaaW.PrintWords Go.Proofs.YtgmjolngnhdafaaW.PrintLast Go.Proofs.YtgmjolngnhdafaaW.PrintMore
attribute [local go_sem] max2_int min2_int max_two min_two max_three min_three max_four min_four
set_option linter.unusedVariables false
set_option linter.unusedSimpArgs false
end Go.Proofs.Ytgmjolngnhdafaa.P

end
section

namespace Go.Proofs.Ytgmjolngnhdafaa.P
open Go.RowKit Go.Proofs.YtgmjolngnhdafaaW.PrintWords Go.Proofs.YtgmjolngnhdafaaW.PrintLast Go.Proofs.YtgmjolngnhdafaaW.PrintMore
attribute [local go_sem] max2_int min2_int max_two min_two max_three min_three max_four min_four
set_option linter.unusedVariables false
set_option linter.unusedSimpArgs false
end Go.Proofs.Ytgmjolngnhdafaa.P

end
section

namespace Go.Proofs.Ytgmjolngnhdafaa.P
open Go.RowKit Go.Proofs.YtgmjolngnhdafaaW.PrintWords Go.Proofs.YtgmjolngnhdafaaW.PrintLast Go.Proofs.YtgmjolngnhdafaaW.PrintMore
attribute [local go_sem] max2_int min2_int max_two min_two max_three min_three max_four min_four
set_option linter.unusedVariables false
set_option linter.unusedSimpArgs false
end Go.Proofs.Ytgmjolngnhdafaa.P

end
section

namespace Go.Proofs.Ytgmjolngnhdafaa.P
open Go.RowKit Go.Proofs.YtgmjolngnhdafaaW.PrintWords Go.Proofs.YtgmjolngnhdafaaW.PrintLast Go.Proofs.YtgmjolngnhdafaaW.PrintMore
attribute [local go_sem] max2_int min2_int max_two min_two max_three min_three max_four min_four
set_option linter.unusedVariables false
set_option linter.unusedSimpArgs false
end Go.Proofs.Ytgmjolngnhdafaa.P

end
section

namespace Go.Proofs.Ytgmjolngnhdafaa.Kit
open Go Go.RowKit Go.Proofs.YtgmjolngnhdafaaW.PrintWords Go.Proofs.Ytgmjolngnhdafaa.P
set_option linter.unusedVariables false
theorem all_step {Q : Nat → Prop} {Z : Prop} {i n : Nat} {r : Bool} (hq : Q i) (hr : r = true ↔ (∀ j, i + 1 ≤ j → j < n → Q j) ∧ Z) : r = true ↔ (∀ j, i ≤ j → j < n → Q j) ∧ Z := by
  rw [hr]
  constructor
  · intro ⟨h2, hz⟩
    refine ⟨fun c h3 h4 => ?_, hz⟩
    rcases Nat.lt_or_ge i c with h5 | h5
    · exact h2 c h5 h4
    · have : c = i := by omega
      subst this
      exact hq
  · intro ⟨h2, hz⟩; exact ⟨fun c h3 h4 => h2 c (by omega) h4, hz⟩
theorem all_stop {Q : Nat → Prop} {Z : Prop} {i n : Nat} (hi : i < n) (hq : ¬ Q i) : (false = true) ↔ (∀ j, i ≤ j → j < n → Q j) ∧ Z := iff_no fun h => hq (h.1 i (Nat.le_refl _) hi)
theorem all_end {Q : Nat → Prop} {Z : Prop} {n : Nat} {r : Bool} (h : r = true ↔ Z) : r = true ↔ (∀ j, n ≤ j → j < n → Q j) ∧ Z := h.trans ⟨fun hz => ⟨fun j h1 h2 => absurd h2 (by omega), hz⟩, fun h => h.2⟩
theorem all_mem {α : Type} {xs : List α} {d : α} {Q : α → Prop} : (∀ j, 0 ≤ j → j < xs.length → Q (xs.getD j d)) ↔ ∀ x ∈ xs, Q x := by
  constructor
  · intro h x hx
    obtain ⟨i, hi, rfl⟩ := List.mem_iff_getElem.1 hx
    have := h i (Nat.zero_le _) hi
    rwa [getD_at hi] at this
  · intro h j _ hj
    rw [getD_at hj]
    exact h _ (List.getElem_mem hj)
def I64 (l : List Int) : Prop := ∀ t ∈ l, -9223372036854775808 ≤ t ∧ t ≤ 9223372036854775807
theorem I64.at {l : List Int} (h : I64 l) {i : Nat} (hi : i < l.length) : -9223372036854775808 ≤ l.getD i 0 ∧ l.getD i 0 ≤ 9223372036854775807 := by
  rw [getD_at hi]; exact h _ (List.getElem_mem hi)
theorem rdN {xs : List Int} (i : Nat) : rd xs (i : Int) = xs.getD i 0 := rfl
def ShOk (cs : List Cls) (n : Int) (b : Bool) (l m : List Int) : Prop :=
  (b = true ∧ (l.length : Int) = n ∧ m.length ≤ 4 ∧ (∀ t ∈ l, TyOk cs.length t) ∧ (∀ t ∈ m, TyOk cs.length t ∧ t ≠ 0)) ∨ (b = false ∧ l.length = 0 ∧ m.length = 0)
theorem spec_shapeOk {cs : List Cls} (hs : SmallC cs) (n : Int) (b : Bool) {l m : List Int} (hl : l.length ≤ 1048576) (hm : m.length ≤ 1048576) :
    Evp (fun k => spec_ShapeOk.f k cs n b l m) (fun r => r = true ↔ ClsOk cs ∧ ShOk cs n b l m) := by
  unfold spec_ShapeOk.f
  refine Evp.bind (spec_classesOk hs) fun c hc => Evp.ite (fun h => ?_) (fun h => Evp.pure _ (iff_no fun h2 => h (hc.2 h2.1)))
  have hok := hc.1 h
  refine Evp.ite (fun hb => ?_) (fun hb => Evp.ite (fun h1 => Evp.pure _ ?_) (fun h1 => Evp.pure _ (iff_no ?_)))
  · have jt : ¬ ShOk cs n b l m → Evp (fun k => spec_ShapeOk.j0 k cs true b l m) (fun r => r = true ↔ ClsOk cs ∧ ShOk cs n b l m) := fun h =>
      Evp.step (f := fun k => _) (fun k => by rw [spec_ShapeOk.j0]) (Evp.yes rfl (Evp.pure _ (iff_no fun h2 => h h2.2)))
    refine Evp.ite (fun h1 => ?_) (fun h1 => jt ?_)
    · by_cases h4 : m.length ≤ 4
      · rw [decide_eq_false (by omega)]
        refine Evp.step (f := fun k => _) (fun k => by rw [spec_ShapeOk.j0]) (Evp.no (by decide) ?_)
        have k1 : ∀ i, i ≤ m.length → Evp (fun k => spec_ShapeOk.l1 k cs (i : Int) b l m) (fun r => r = true ↔ (∀ j, i ≤ j → j < m.length → TyOk cs.length (m.getD j 0) ∧ m.getD j 0 ≠ 0) ∧ True) := by
          refine Evp.for_ ?_ (fun i hi ih => ?_)
          · refine Evp.step (f := fun k => _) (fun k => by rw [spec_ShapeOk.l1]) (Evp.no (by omega) (Evp.pure _ (all_end (iff_yes trivial))))
          · refine Evp.step (f := fun k => _) (fun k => by rw [spec_ShapeOk.l1, rdN]) (Evp.yes (by omega) (Evp.yes (by omega) ?_))
            refine Evp.bind (spec_typeOk hs _) fun d hd => Evp.ite (fun h5 => Evp.ite (fun h6 => Evp.pure _ (all_stop hi fun h7 => h7.2 h6)) (fun h6 => ?_)) (fun h5 => Evp.pure _ (all_stop hi fun h7 => h5 (hd.2 ⟨hok, h7.1⟩)))
            rw [w64' hi (by omega)]
            exact ih.mono fun r hr => all_step (Q := fun j => TyOk cs.length (m.getD j 0) ∧ m.getD j 0 ≠ 0) ⟨(hd.1 h5).2, h6⟩ hr
        have k0 : ∀ i, i ≤ l.length → Evp (fun k => spec_ShapeOk.l0 k cs (i : Int) b l m) (fun r => r = true ↔ (∀ j, i ≤ j → j < l.length → TyOk cs.length (l.getD j 0)) ∧ ((∀ j, 0 ≤ j → j < m.length → TyOk cs.length (m.getD j 0) ∧ m.getD j 0 ≠ 0) ∧ True)) := by
          refine Evp.for_ ?_ (fun i hi ih => ?_)
          · refine Evp.step (f := fun k => _) (fun k => by rw [spec_ShapeOk.l0]) (Evp.no (by omega) ?_)
            exact (k1 0 (Nat.zero_le _)).mono fun r hr => all_end hr
          · refine Evp.step (f := fun k => _) (fun k => by rw [spec_ShapeOk.l0, rdN]) (Evp.yes (by omega) (Evp.yes (by omega) ?_))
            refine Evp.bind (spec_typeOk hs _) fun d hd => Evp.ite (fun h5 => ?_) (fun h5 => Evp.pure _ (all_stop hi fun h7 => h5 (hd.2 ⟨hok, h7⟩)))
            rw [w64' hi (by omega)]
            exact ih.mono fun r hr => all_step (Q := fun j => TyOk cs.length (l.getD j 0)) (hd.1 h5).2 hr
        refine (k0 0 (Nat.zero_le _)).mono fun r hr => hr.trans ?_
        rw [all_mem (Q := fun t => TyOk cs.length t), all_mem (Q := fun t => TyOk cs.length t ∧ t ≠ 0)]
        unfold ShOk
        rw [hb]
        constructor
        · intro h5; exact ⟨hok, .inl ⟨rfl, h1, h4, h5.1, h5.2.1⟩⟩
        · intro h5
          rcases h5.2 with h6 | h6
          · exact ⟨h6.2.2.2.1, h6.2.2.2.2, trivial⟩
          · cases h6.1
      · rw [decide_eq_true (by omega)]
        refine jt ?_
        unfold ShOk
        rw [hb]
        intro h5
        rcases h5 with h5 | h5
        · exact h4 h5.2.2.1
        · cases h5.1
    · unfold ShOk
      rw [hb]
      intro h5
      rcases h5 with h5 | h5
      · exact h1 h5.2.1
      · cases h5.1
  · have hb' : b = false := by simpa using hb
    rw [beq_iff_eq]
    unfold ShOk
    rw [hb']
    constructor
    · intro h2; exact ⟨hok, .inr ⟨rfl, by omega, by omega⟩⟩
    · intro h2
      rcases h2.2 with h3 | h3
      · cases h3.1
      · omega
  · have hb' : b = false := by simpa using hb
    unfold ShOk
    rw [hb']
    intro h2
    rcases h2.2 with h3 | h3
    · cases h3.1
    · omega
theorem impl_shapeOk' {cs : List Cls} (hs : SmallC cs) (n : Int) (b : Bool) {l m : List Int} (hl : l.length ≤ 1048576) (hm : m.length ≤ 1048576) (il : I64 l) (im : I64 m) :
    Evp (fun k => impl_shapeOk.f k cs n b l m) (fun r => r = true ↔ ShOk cs n b l m) := by
  have hl0 := hs.1
  unfold impl_shapeOk.f
  refine Evp.ite (fun hb => ?_) (fun hb => Evp.ite (fun h1 => Evp.pure _ ?_) (fun h1 => Evp.pure _ (iff_no ?_)))
  · have jt : ¬ ShOk cs n b l m → Evp (fun k => impl_shapeOk.j0 k cs true b l m) (fun r => r = true ↔ ShOk cs n b l m) := fun h =>
      Evp.step (f := fun k => _) (fun k => by rw [impl_shapeOk.j0]) (Evp.yes rfl (Evp.pure _ (iff_no h)))
    refine Evp.ite (fun h1 => ?_) (fun h1 => jt ?_)
    · by_cases h4 : m.length ≤ 4
      · rw [decide_eq_false (by omega)]
        refine Evp.step (f := fun k => _) (fun k => by rw [impl_shapeOk.j0]) (Evp.no (by decide) ?_)
        have k1 : ∀ i, i ≤ m.length → Evp (fun k => impl_shapeOk.l1 k cs m (m.length : Int) (i : Int)) (fun r => r = true ↔ (∀ j, i ≤ j → j < m.length → TyOk cs.length (m.getD j 0) ∧ m.getD j 0 ≠ 0) ∧ True) := by
          refine Evp.for_ ?_ (fun i hi ih => ?_)
          · refine Evp.step (f := fun k => _) (fun k => by rw [impl_shapeOk.l1]) (Evp.no (by omega) (Evp.pure _ (all_end (iff_yes trivial))))
          · obtain ⟨q, hq, hq2⟩ := kindOf_ty (n := cs.length) (t := m.getD i 0) (by omega) (im.at hi).1 (im.at hi).2
            refine Evp.step (f := fun k => _) (fun k => by rw [impl_shapeOk.l1, rdN, hq, Option.bind_some]) (Evp.yes (by omega) (Evp.yes (by omega) (Evp.yes (by omega) ?_)))
            refine Evp.ite (fun h6 => Evp.pure _ (all_stop hi fun h7 => h7.2 h6)) (fun h6 => ?_)
            rcases hq2 with ⟨h7, rfl⟩ | ⟨h7, rfl⟩
            · refine Evp.no (by have := tyOk_iff.1 h7; omega) ?_
              rw [w64' hi (by omega)]
              exact ih.mono fun r hr => all_step (Q := fun j => TyOk cs.length (m.getD j 0) ∧ m.getD j 0 ≠ 0) ⟨h7, h6⟩ hr
            · exact Evp.yes rfl (Evp.pure _ (all_stop hi fun h8 => h7 h8.1))
        have k0 : ∀ i, i ≤ l.length → Evp (fun k => impl_shapeOk.l0 k cs l (l.length : Int) (i : Int) b l m) (fun r => r = true ↔ (∀ j, i ≤ j → j < l.length → TyOk cs.length (l.getD j 0)) ∧ ((∀ j, 0 ≤ j → j < m.length → TyOk cs.length (m.getD j 0) ∧ m.getD j 0 ≠ 0) ∧ True)) := by
          refine Evp.for_ ?_ (fun i hi ih => ?_)
          · refine Evp.step (f := fun k => _) (fun k => by rw [impl_shapeOk.l0]) (Evp.no (by omega) ?_)
            exact (k1 0 (Nat.zero_le _)).mono fun r hr => all_end hr
          · obtain ⟨q, hq, hq2⟩ := kindOf_ty (n := cs.length) (t := l.getD i 0) (by omega) (il.at hi).1 (il.at hi).2
            refine Evp.step (f := fun k => _) (fun k => by rw [impl_shapeOk.l0, rdN, hq, Option.bind_some]) (Evp.yes (by omega) (Evp.yes (by omega) (Evp.yes (by omega) ?_)))
            rcases hq2 with ⟨h7, rfl⟩ | ⟨h7, rfl⟩
            · refine Evp.no (by have := tyOk_iff.1 h7; omega) ?_
              rw [w64' hi (by omega)]
              exact ih.mono fun r hr => all_step (Q := fun j => TyOk cs.length (l.getD j 0)) h7 hr
            · exact Evp.yes rfl (Evp.pure _ (all_stop hi h7))
        refine (k0 0 (Nat.zero_le _)).mono fun r hr => hr.trans ?_
        rw [all_mem (Q := fun t => TyOk cs.length t), all_mem (Q := fun t => TyOk cs.length t ∧ t ≠ 0)]
        unfold ShOk
        rw [hb]
        constructor
        · intro h5; exact .inl ⟨rfl, h1, h4, h5.1, h5.2.1⟩
        · intro h5
          rcases h5 with h6 | h6
          · exact ⟨h6.2.2.2.1, h6.2.2.2.2, trivial⟩
          · cases h6.1
      · rw [decide_eq_true (by omega)]
        refine jt ?_
        unfold ShOk
        rw [hb]
        intro h5
        rcases h5 with h5 | h5
        · exact h4 h5.2.2.1
        · cases h5.1
    · unfold ShOk
      rw [hb]
      intro h5
      rcases h5 with h5 | h5
      · exact h1 h5.2.1
      · cases h5.1
  · have hb' : b = false := by simpa using hb
    rw [beq_iff_eq]
    unfold ShOk
    rw [hb']
    constructor
    · intro h2; exact .inr ⟨rfl, by omega, by omega⟩
    · intro h2
      rcases h2 with h3 | h3
      · cases h3.1
      · omega
  · have hb' : b = false := by simpa using hb
    unfold ShOk
    rw [hb']
    intro h2
    rcases h2 with h3 | h3
    · cases h3.1
    · omega
theorem impl_ShapeOk' {cs : List Cls} (hs : SmallC cs) (n : Int) (b : Bool) {l m : List Int} (hl : l.length ≤ 1048576) (hm : m.length ≤ 1048576) (il : I64 l) (im : I64 m) :
    Evp (fun k => impl_ShapeOk.f k cs n b l m) (fun r => r = true ↔ ClsOk cs ∧ ShOk cs n b l m) := by
  unfold impl_ShapeOk.f
  refine Evp.bind (impl_classesOk hs) fun c hc => Evp.ite (fun h => ?_) (fun h => Evp.pure _ (iff_no fun h2 => h (hc.2 h2.1)))
  exact Evp.bind (impl_shapeOk' hs n b hl hm il im) fun d hd => Evp.pure _ (hd.trans ⟨fun h3 => ⟨hc.1 h, h3⟩, fun h3 => h3.2⟩)
end Go.Proofs.Ytgmjolngnhdafaa.Kit

end
section

namespace Go.Proofs.Ytgmjolngnhdafaa.Kit
open Go Go.RowKit Go.Proofs.YtgmjolngnhdafaaW.PrintWords Go.Proofs.Ytgmjolngnhdafaa.P
set_option linter.unusedVariables false
def Short (l : List Int) : Prop := l.length ≤ 20 ∧ Few l
theorem Short.i64 {l : List Int} (h : Short l) : I64 l := fun t ht => by have := h.2 t ht; omega
theorem Short.len {l : List Int} (h : Short l) : l.length ≤ 1048576 := Nat.le_trans h.1 (by decide)
theorem Few.app {l m : List Int} (h : Few l) (h' : Few m) : Few (l ++ m) := by
  intro t ht
  rcases List.mem_append.1 ht with h1 | h1
  · exact h t h1
  · exact h' t h1
theorem shape_evp {bs : List Int} (h : Bytes bs) {p n : Int} {m : Nat} (h0 : 0 ≤ p) (h1 : p ≤ 10000000) (hn : 1 ≤ n) (hn2 : n ≤ 100) (hm : m ≤ 10) :
    Evp (fun k => spec_l72Shape.f k bs p n (m : Int)) (fun r => Short r.2.1 ∧ Short r.2.2.1 ∧ p ≤ r.2.2.2 ∧ r.2.2.2 ≤ p + 100) := by
  unfold spec_l72Shape.f
  have one : Few [1] := Few.nil.snoc (t := 1) (by decide) (by decide)
  have k1 : ∀ j : Nat, ∀ (b : Bool) (s t : List Int) (q : Int), j ≤ 10 → s.length ≤ 10 → Few s → t.length + j ≤ 10 → Few t → p ≤ q → q + 5 * (j : Int) ≤ p + 99 → Evp (fun k => spec_l72Shape.l1 k n (j : Int) bs q b s t) (fun r => Short r.2.1 ∧ Short r.2.2.1 ∧ p ≤ r.2.2.2 ∧ r.2.2.2 ≤ p + 100) := by
    intro j
    induction j with
    | zero =>
      intro b s t q hj hs fs ht ft hq hq2
      refine Evp.step (f := fun k => _) (fun k => by rw [spec_l72Shape.l1]) (Evp.no (by omega) ?_)
      refine Evp.bind (pick_evp h (by omega) (by omega) (by omega)) fun a ha => ?_
      have ha2 := ha.2.2
      have hS : Short s := ⟨by omega, fs⟩
      have hT : Short t := ⟨by omega, ft⟩
      refine Evp.ite (fun _ => ?_) (fun _ => Evp.ite (fun _ => Evp.pure _ ⟨hS, hT, by dsimp only; omega, by dsimp only; omega⟩) (fun _ => Evp.ite (fun _ => ?_) (fun _ => Evp.ite (fun _ => ?_) (fun _ => Evp.pure _ ⟨hS, hT, by dsimp only; omega, by dsimp only; omega⟩))))
      · unfold spec_l11None.f
        simp only [Option.bind_some]
        exact Evp.pure _ ⟨⟨Nat.zero_le _, Few.nil⟩, ⟨Nat.zero_le _, Few.nil⟩, by dsimp only; omega, by dsimp only; omega⟩
      · exact Evp.yes (by omega) (Evp.pure _ ⟨⟨by simp; omega, fs.app one⟩, hT, by dsimp only; omega, by dsimp only; omega⟩)
      · simp only [Option.bind_some]
        refine Evp.yes (by simp; omega) (Evp.pure _ ⟨hS, ⟨by simp; omega, ft.app ?_⟩, by dsimp only; omega, by dsimp only; omega⟩)
        exact (((one.snoc (t := 1) (by decide) (by decide)).snoc (t := 1) (by decide) (by decide)).snoc (t := 1) (by decide) (by decide))
    | succ j ih =>
      intro b s t q hj hs fs ht ft hq hq2
      refine Evp.step (f := fun k => _) (fun k => by rw [spec_l72Shape.l1]) (Evp.yes (by omega) ?_)
      rw [show wrap64 (((j + 1 : Nat) : Int) - 1) = (j : Int) by rw [w64 (by omega) (by omega)]; omega]
      refine Evp.bind (type_evp h (by omega) (by omega) hn hn2) fun a ha => ?_
      refine Evp.ite (fun _ => ?_) (fun _ => ?_)
      · refine Evp.bind (pick_evp h (by omega) (by omega) (by omega)) fun c hc => ?_
        have hc2 := hc.2.2
        refine Evp.ite (fun _ => ?_) (fun _ => ?_)
        · exact Evp.yes (by omega) (ih b s (t ++ [1]) c.2 (by omega) hs fs (by simp; omega) (ft.app one) (by omega) (by omega))
        · exact Evp.yes (by omega) (ih b s (t ++ [a.1]) c.2 (by omega) hs fs (by simp; omega) (ft.snoc (by omega) (by omega)) (by omega) (by omega))
      · exact Evp.yes (by omega) (ih b s (t ++ [a.1]) a.2 (by omega) hs fs (by simp; omega) (ft.snoc (by omega) (by omega)) (by omega) (by omega))
  have k0 : ∀ d i : Nat, i + d = m → ∀ (b : Bool) (s : List Int) (q : Int), s.length = i → Few s → p ≤ q → q + 5 * (d : Int) ≤ p + 50 → Evp (fun k => spec_l72Shape.l0 k n (m : Int) (i : Int) bs q b s) (fun r => Short r.2.1 ∧ Short r.2.2.1 ∧ p ≤ r.2.2.2 ∧ r.2.2.2 ≤ p + 100) := by
    intro d
    induction d with
    | zero =>
      intro i hi b s q hs fs hq hq2
      refine Evp.step (f := fun k => _) (fun k => by rw [spec_l72Shape.l0]) (Evp.no (by omega) ?_)
      refine Evp.bind (pick_evp h (by omega) (by omega) (by omega)) fun a ha => ?_
      obtain ⟨j, hj⟩ : ∃ j : Nat, a.1 = (j : Int) := ⟨a.1.toNat, by have := ha.1; omega⟩
      have ha1 := ha.2.1 (by omega)
      rw [hj]
      exact k1 j b s [] a.2 (by omega) (by omega) fs (by simp; omega) Few.nil (by omega) (by omega)
    | succ d ih =>
      intro i hi b s q hs fs hq hq2
      refine Evp.step (f := fun k => _) (fun k => by rw [spec_l72Shape.l0]) (Evp.yes (by omega) ?_)
      refine Evp.bind (type_evp h (by omega) (by omega) hn hn2) fun a ha => Evp.yes (by omega) ?_
      rw [w64' (n := m) (by omega) (by omega)]
      exact ih (i + 1) (by omega) b (s ++ [a.1]) a.2 (by simp; omega) (fs.snoc (by omega) (by omega)) (by omega) (by omega)
  exact k0 m 0 (by omega) true [] p rfl Few.nil (by omega) (by omega)
theorem drawShape_evp {l : List Int} (h : ∀ x ∈ l, (Lit.int .u8 x).wf = true) :
    Evp (fun k => spec_DrawShapeOk.f k l) (fun r => Drawn 4 9 r.1 ∧ (0 ≤ r.2.1 ∧ r.2.1 ≤ 4) ∧ Short r.2.2.2.1 ∧ Short r.2.2.2.2) := by
  obtain ⟨bs, ho, hb⟩ := open_evp h
  unfold spec_DrawShapeOk.f
  simp only [ho, Option.bind_some]
  refine Evp.bind (off_evp hb (by omega) (by omega)) fun d hd => ?_
  obtain ⟨hd1, hd2, hd3⟩ := hd
  have hl := hd1.1
  have hl9 := hd1.2.1
  refine Evp.bind (pick_evp hb hd2 (by omega) (by omega)) fun a ha => ?_
  have ha1 := ha.2.1 (by omega)
  have ha0 := ha.1
  have e : a.1 = ((a.1.toNat : Nat) : Int) := by omega
  have := shape_evp hb (p := a.2) (n := (d.1.length : Int)) (m := a.1.toNat) (by omega) (by omega) (by omega) (by omega) (by omega)
  rw [← e] at this
  exact Evp.bind this fun s hs => Evp.pure _ ⟨hd1, ⟨by dsimp only; omega, by dsimp only; omega⟩, hs.1, hs.2.1⟩
end Go.Proofs.Ytgmjolngnhdafaa.Kit

end
section

namespace Go.Proofs.Ytgmjolngnhdafaa.Kit
open Go Go.RowKit Go.Proofs.YtgmjolngnhdafaaW.PrintWords Go.Proofs.Ytgmjolngnhdafaa.P
set_option linter.unusedVariables false
theorem shOk_true {cs : List Cls} {n : Int} {b : Bool} {l m : List Int} (h : ShOk cs n b l m) (hb : b = true) : (l.length : Int) = n ∧ m.length ≤ 4 ∧ (∀ t ∈ l, TyOk cs.length t) ∧ (∀ t ∈ m, TyOk cs.length t ∧ t ≠ 0) := by
  rcases h with h | h
  · exact h.2
  · rw [h.1] at hb; cases hb
end Go.Proofs.Ytgmjolngnhdafaa.Kit

end
section

namespace Go.Proofs.Ytgmjolngnhdafaa.Pure
open Go Go.RowKit Go.Proofs.YtgmjolngnhdafaaW.PrintWords Go.Proofs.Ytgmjolngnhdafaa.P Go.Proofs.Ytgmjolngnhdafaa.Kit
theorem FnShapeOk : laws_FnShapeOk.Pure := by
  intro l0 _ _ hb
  refine Evp.rounds ?_
  unfold laws_FnShapeOk.f
  refine Evp.ite (fun _ => Evp.pure _ rfl) (fun _ => Evp.bind (drawShape_evp hb) fun d hd => ?_)
  obtain ⟨hd1, hdn, hl, hm⟩ := hd
  have hs : SmallC d.1 := hd1.small (by decide) (by decide)
  refine Evp.bind (impl_ShapeOk' hs _ _ hl.len hm.len hl.i64 hm.i64) fun u hu => Evp.bind (spec_shapeOk hs _ _ hl.len hm.len) fun v hv => Evp.no (bne_no hv hu) ?_
  obtain ⟨cs, n, b, l, m⟩ := d
  dsimp only at *
  refine Evp.step (f := fun k => _) (fun k => by rw [laws_FnShapeOk.j0]) ?_
  cases u with
  | false => exact Evp.yes rfl (Evp.bind (spec_shapeOk hs _ _ hl.len hm.len) fun v' hv' => Evp.pure _ (by rw [same_of hu hv']; simp))
  | true =>
    obtain ⟨hok, hsh⟩ := hu.1 rfl
    refine Evp.no (by decide) (Evp.ite (fun hb => ?_) (fun hb => Evp.pure _ ?_))
    · obtain ⟨h1, h2, h3, h4⟩ := shOk_true hsh hb
      have hlen := hm.1
      refine Evp.for_ (n := m.length) (g := fun i k => laws_FnShapeOk.l0 k cs n (i : Int) b l m) (R := fun _ r => r = true) ?_ (fun i hi ih => ?_) 0 (Nat.zero_le _)
      · refine Evp.step (f := fun k => _) (fun k => by rw [laws_FnShapeOk.l0]) (Evp.no (by omega) (Evp.yes h1 (Evp.yes (by omega) ?_)))
        refine Evp.bind (impl_ShapeOk' hs n false (l := []) (m := []) (by decide) (by decide) (fun t ht => by cases ht) (fun t ht => by cases ht)) fun e he => Evp.pure _ ?_
        exact he.2 ⟨hok, .inr ⟨rfl, rfl, rfl⟩⟩
      · refine Evp.step (f := fun k => _) (fun k => by rw [laws_FnShapeOk.l0]) (Evp.yes (by omega) (Evp.yes (by omega) (Evp.no ?_ ?_)))
        · rw [rdInt hi]
          exact (h4 _ (List.getElem_mem hi)).2
        · rw [w64' hi (by omega)]
          exact ih
    · rcases hsh with h1 | h1
      · exact absurd h1.1 hb
      · have e1 := h1.2.1
        have e2 := h1.2.2
        rw [w64 (by omega) (by omega), beq_iff_eq]
        omega
end Go.Proofs.Ytgmjolngnhdafaa.Pure

end
section

namespace Go.Proofs.Ytgmjolngnhdafaa.fnShapeOk
open Go.ChangeShapes Go.WideShapes Go.ChangeAt Go.RowKit
open Go.ChangeMaps (open_string shut_string)
set_option linter.unusedVariables false
theorem own : ownKnob Try.prog.godebug = none := by kernel_rfl
theorem laidOut : laidOutB Try.prog = true := by kernel_rfl
def IsRow (k : IntKind) (w : World) (a : Option Addr) (len cap : Nat) (zs : List Int) : Prop :=
  (a = none ∧ len = 0 ∧ cap = 0 ∧ zs = []) ∨
  ∃ x, a = some x ∧ len ≤ cap ∧ cap ≤ maxLen ∧ zs.length = cap ∧ (∀ i, i < zs.length → w.cell? (x.add i) = some (.int k (zs.getD i 0))) ∧ ∀ n ∈ zs, (Lit.int k n).wf = true
set_option maxRecDepth 100000 in
theorem lifted (os : Os) (started : os.Started) (H : Type) (enc : TypeId × Value → H) :
    ReturnsInHanded {} Try.checked os 17 .any (Rows.fnShapeOkSpec.pre6 enc Try.prog Try.f17 Rows.fnShapeOkRow.domain false) (Rows.fnShapeOkSpec.post enc Try.prog Try.f17 false true false false) := by
  refine returnsInHanded_of_change_sized (C := Try.checked) own started (by kernel_rfl) Try.func17
    (ChangeSpec.witness6 (enc := enc) (C := Try.checked) false ⟨#[], #[.slice none 0 0], []⟩ 8 (by kernel_rfl) (by kernel_rfl) (by kernel_rfl) (by kernel_rfl)) ?_
  intro W base args ds gs before hval0 hW hcnd hsz0 _
  have hsz : (DataW.weightsEach Try.prog (Try.f17.params.toList ++ Rows.fnShapeOkSpec.plain.varTypes Try.prog) (ds ++ gs)).all (· ≤ reachBytes) = true := hsz0
  have hval : ∀ (j : Nat) t v, Try.f17.params[j]? = some t → args[j]? = some v → Value.okWide Try.prog W .any base t v := hval0
  have hW' := hW
  obtain ⟨p, q, hA0, hV, rfl, hfz, hnd⟩ := hW
  have hA : DataW.TrodAll enc Try.prog W 0 (fun _ => true) true Try.f17.params.toList args.toList ds p := hA0
  rw [Try.params17] at hA hval hsz
  obtain ⟨v0, vs0, d0, ds0, p0, q0, hargs, rfl, rfl, h0, r0⟩ := trodAll_cons hA
  obtain ⟨rfl, rfl, rfl⟩ := trodAll_nil r0
  obtain rfl : args = #[v0] := by cases args; simp_all
  obtain ⟨rfl, rfl⟩ := trodVars_none hV
  obtain ⟨a0, len0, cap0, rfl⟩ := okWide_slice Try.underlying31 (hval 0 31 v0 rfl rfl)
  have k0 := h0
  have lt0 : ∀ x ∈ p0, x.block < W.heap.size := by obtain ⟨m, hm⟩ := k0; exact DataW.trod_lt m _ _ _ hm
  obtain ⟨z0, w0⟩ : ∃ zs, IsRow .u8 W a0 len0 cap0 zs := by
    obtain ⟨fuel, hf⟩ := h0
    rcases open_ints Try.underlying31 Try.underlying5 (by kernel_rfl) hf with ⟨hcs, _⟩ | ⟨x, l, c, zs, hcs, _, hl, hm, hz, _, hcell, hwz⟩
    · simp [Value.cells] at hcs
      obtain ⟨rfl, rfl, rfl⟩ := hcs
      exact ⟨[], .inl ⟨rfl, rfl, rfl, rfl⟩⟩
    · simp [Value.cells] at hcs
      obtain ⟨rfl, rfl, rfl⟩ := hcs
      exact ⟨zs, .inr ⟨_, rfl, hl, hm, by simpa using hz, hcell, hwz⟩⟩
  have y0 : len0 * 1 ≤ 140737488351232 := Go.Proofs.YtgmjolngnhdafaaW.PrintWords.sized_ints hsz (j := 0) (t := 31) rfl rfl Try.underlying31 Try.underlying5 (by kernel_rfl) (by kernel_rfl) h0
  clear hA0 hval0 hsz0 hsz
  refine (P.laws_FnShapeOk.walk Pure.FnShapeOk a0 len0 cap0 z0 W w0 y0).mono fun e W' ⟨he, bel⟩ => ?_
  subst he
  exact ⟨_, rfl, _, _, _, [], _, [], hW', trodAll_mk1 (shut_bool Try.underlying4 _), (trodAll_cons_mk (Below.trod laidOut (by kernel_rfl) (of_decide_eq_true (by kernel_rfl)) k0 bel lt0) trodAll_mk0), rfl, bel.frame _, fun h => by cases h⟩
theorem over : Rows.fnShapeOkRow.holds Try.pinned (OpenSpec.ofChange Rows.fnShapeOkSpec) :=
  OpenClaim.holds_of_wide 17 Try.f17 rfl rfl rfl rfl rfl rfl rfl ⟨rfl, rfl, rfl, rfl, rfl⟩ rfl rfl rfl rfl rfl (by kernel_rfl) Try.func17 (by show joinedFacts Try.prog _ _ _ _ = true; unfold joinedFacts; rw [Go.Proofs.Ytgmjolngnhdafaa.enter, Go.Proofs.Ytgmjolngnhdafaa.make, Go.Proofs.Ytgmjolngnhdafaa.lifts]; kernel_rfl)
    (of_decide_eq_true (by kernel_rfl)) (by unfold Func.isWrapper; first | (rw [if_pos (by decide +kernel)]; kernel_rfl) | (rw [if_neg (by decide +kernel)]; exact ⟨rfl, rfl⟩))
    (fun os started H enc _ => lifted os started H enc)
theorem proved : Rows.FnShapeOkSaid := over
#print axioms proved
end Go.Proofs.Ytgmjolngnhdafaa.fnShapeOk
namespace Go.Proofs.Ytgmjolngnhdafaa
theorem fnShapeOk_holds : Rows.FnShapeOkSaid := fnShapeOk.proved
end Go.Proofs.Ytgmjolngnhdafaa

end
