/- A part of the claim FnShapeOrder: texts of this session and texts that its program printed out of the translation, joined. -/
import Derived.Test.YtchegijjjakmpaaCFnShapeOrder22
import Derived.Test.YtchegijjjakmpaaCFnShapeOrder29
import Derived.Test.YtchegijjjakmpaaCFnShapeOrder30
import Derived.Test.YtchegijjjakmpaaCFnShapeOrder31
import Derived.Test.YtchegijjjakmpaaCFnShapeOrder0
import Derived.Test.YtchegijjjakmpaaCFnShapeOrder1
import Derived.Test.YtchegijjjakmpaaCFnShapeOrder2
import Derived.Test.YtchegijjjakmpaaCFnShapeOrder3
import Derived.Test.YtchegijjjakmpaaCFnShapeOrder4
import Derived.Test.YtchegijjjakmpaaCFnShapeOrder5
import Derived.Test.YtchegijjjakmpaaCFnShapeOrder6
import Derived.Test.YtchegijjjakmpaaCFnShapeOrder7
import Derived.Test.YtchegijjjakmpaaCFnShapeOrder8
import Derived.Test.YtchegijjjakmpaaCFnShapeOrder9
import Derived.Test.YtchegijjjakmpaaCFnShapeOrder10
import Derived.Test.YtchegijjjakmpaaCFnShapeOrder11
import Derived.Test.YtchegijjjakmpaaCFnShapeOrder12
import Derived.Test.YtchegijjjakmpaaCFnShapeOrder13
import Derived.Test.YtchegijjjakmpaaCFnShapeOrder14
import Derived.Test.YtchegijjjakmpaaCFnShapeOrder15
import Derived.Test.YtchegijjjakmpaaCFnShapeOrder16
import Derived.Test.YtchegijjjakmpaaCFnShapeOrder17
import Derived.Test.YtchegijjjakmpaaCFnShapeOrder18
import Derived.Test.YtchegijjjakmpaaCFnShapeOrder19
import Derived.Test.YtchegijjjakmpaaCFnShapeOrder20
import Derived.Test.YtchegijjjakmpaaCFnShapeOrder21
import Derived.Test.YtchegijjjakmpaaCFnShapeOrder23
import Derived.Test.YtchegijjjakmpaaCFnShapeOrder24
import Derived.Test.YtchegijjjakmpaaCFnShapeOrder25
import Derived.Test.YtchegijjjakmpaaCFnShapeOrder26
import Derived.Test.YtchegijjjakmpaaCFnShapeOrder27
import Derived.Test.YtchegijjjakmpaaCFnShapeOrder28
section

namespace Go.Proofs.Ytchegijjjakmpaa.P
open Go.RowKit Go.Proofs.YtchegijjjakmpaaW.PrintWords Go.Proofs.YtchegijjjakmpaaW.PrintLast Go.Proofs.YtchegijjjakmpaaW.PrintMore
attribute [local go_sem] max2_int min2_int max_two min_two max_three min_three max_four min_four
set_option linter.unusedVariables false
set_option linter.unusedSimpArgs false
def laws_FnShapeOrder.T9 : Bool × List (List Nat × List Nat) := (true, [([], []), ([], []), ([1], [1]), ([0, 2], [0, 2]), ([], []), ([], []), ([5], [5]), ([4, 6, 3], [4, 6]), ([3, 7], [3, 7]), ([], []), ([9, 8, 7, 0, 1, 2, 3, 4, 5, 6, 7, 8, 9], [8, 9])])
def laws_FnShapeOrder.B9 : List Nat := [0, 0, 2, 7, 0, 0, 32, 127, 255, 0, 1023]
theorem laws_FnShapeOrder.tab9 : rtab .any (opsOf Try.f3 9) = laws_FnShapeOrder.T9 := by kernel_rfl
theorem laws_FnShapeOrder.bits9 : waitsOk laws_FnShapeOrder.T9.2 laws_FnShapeOrder.B9 = true := by kernel_rfl
def laws_FnShapeOrder.T11 : Bool × List (List Nat × List Nat) := (true, [([], []), ([0], [0]), ([], []), ([2], [2]), ([], []), ([4], [4]), ([5], [5]), ([3, 6], [3, 6]), ([1, 7, 0, 1, 2, 3, 4, 5, 6, 7], [1, 7]), ([8, 0, 1, 2, 3, 4, 5, 6, 7], [8])])
def laws_FnShapeOrder.B11 : List Nat := [0, 1, 0, 4, 0, 16, 48, 124, 255, 511]
theorem laws_FnShapeOrder.tab11 : rtab .any (opsOf Try.f3 11) = laws_FnShapeOrder.T11 := by kernel_rfl
theorem laws_FnShapeOrder.bits11 : waitsOk laws_FnShapeOrder.T11.2 laws_FnShapeOrder.B11 = true := by kernel_rfl
theorem kp2 {W w1 : World} (g : Nat) (cs : Array Value) (t : TypeId) (hb : Below W.heap.size W w1) (h : W.heap[g]? = some (.cells cs t (0, 0)) := by (repeat (first | (with_reducible first | refine blk_drewN ?_ _ | refine blk_drew ?_ | refine blk_alloc ?_ _) | refine blk_far ?_ (Aside0.out (by assumption)) _ | (refine blk_far (cs := ?_) ?_ (Aside0.out (by assumption)) _; rotate_left 1) | apply blk_put)); exact Aside0.out (by assumption); all_goals rfl) : Aside0 (w1.heap[g]? = some (.cells cs t (0, 0))) := ⟨blk_below h hb⟩
abbrev so (k : Nat) (A : Option Addr) (l : List Int) (c : Nat) : Prop := some k ≠ (Value.slice A l.length c).ownBlock
set_option maxHeartbeats 8000000 in
set_option maxRecDepth 100000 in
theorem laws_FnShapeOrder.calls (k : Nat) (A0 : Option Addr) (c0 : Nat) (l0 : List Int) (A1 : Option Addr) (c1 : Nat) (l1 : List Int) (r : Bool) (w : World) (hr0 : Kd.C (Kd.int .u8) w A0 l0.length l0) (hc0 : l0.length ≤ c0) (hr1 : Kd.C (Kd.int .u8) w A1 l1.length l1) (hc1 : l1.length ≤ c1) (h : laws_FnShapeOrder.f k l0 l1 = some r) (hr_ : r = true) :
  Calls Try.prog 3 #[.slice A0 l0.length c0, .slice A1 l1.length c1] w fun e w' => e = .returned (.bool r) ∧ Below w.heap.size w w' := by
 have hu26 := Try.underlying26
 have HR0 := Aside0.mk hr0
 have HC0 := Aside0.mk hc0
 clear hr0 hc0
 have HR1 := Aside0.mk hr1
 have HC1 := Aside0.mk hc1
 clear hr1 hc1
 have HB := Aside0.mk (Below.refl w.heap.size w)
 have H : (if (l0.length : Int) > 1048576 then (laws_FnShapeOrder.j0 k l0 l1 true) else (laws_FnShapeOrder.j0 k l0 l1 (decide ((l1.length : Int) > 1048576)))) = some r := h
 clear h
 have HC3 := Aside0.mk H
 clear H
 go_enter Try.func3, Try.ntmps3
 go_upto_region 1 with (fail)
 go_cut [17] (fun v17 wc => ∃ (kq : Nat) (x17_2 : Bool), v17 = .bool x17_2 ∧ Aside0 (laws_FnShapeOrder.j0 kq l0 l1 x17_2 = some r) ∧ Aside0 (kq ≤ k) ∧ Aside0 (Below w.heap.size w wc))
 case first =>
  have H := HC3.out
  clear HC3
  by_cases c4 : (l0.length : Int) > 1048576
  ·rw [if_pos c4] at H
   have c4b0 : decide (1048576 < (l0.length : Int)) = true := decide_eq_true c4
   have c4b1 : decide (1048576 < l0.length) = true := decide_eq_true (by omega)
   clear c4
   (first | rw [c4b0] | (simp only [i64_w, i32_w]; rw [c4b0]) | skip)
   have H' := Aside0.mk H
   clear H
   go_wp2
   go_meet
   case rel => exact ⟨_, (true), (by first | rfl | (simp; done) | (simp [*]; done)), H', ⟨by first | omega | exact Nat.le_refl _⟩, ⟨bl⟩⟩
  ·rw [if_neg c4] at H
   have c4b0 : decide (1048576 < (l0.length : Int)) = false := decide_eq_false c4
   have c4b1 : decide (1048576 < l0.length) = false := decide_eq_false (by omega)
   clear c4
   (first | rw [c4b0] | (simp only [i64_w, i32_w]; rw [c4b0]) | skip)
   have H' := Aside0.mk H
   clear H
   go_wp2
   go_meet
   case rel => exact ⟨_, (decide ((l1.length : Int) > 1048576)), (by first | rfl | (simp; done) | (simp [*]; done)), H', ⟨by first | omega | exact Nat.le_refl _⟩, ⟨bl⟩⟩
 case rest =>
  clear HC3
  obtain ⟨kq, x17_2, rfl, HA, HJ2, HB⟩ := hcut
  cases kq with
  | zero => exact absurd HA.out (by simp [laws_FnShapeOrder.j0])
  | succ kj2 =>
   have H := HA.out
   clear HA
   simp only [laws_FnShapeOrder.j0] at H
   by_cases c5 : x17_2 = true
   ·subst c5
    replace H := it H
    obtain rfl := Option.some.inj H; clear H
    go_wp2
    go_ret
    exact fin
   ·replace c5 := Bool.eq_false_iff.mpr c5
    subst c5
    replace H := ie H
    replace H := Option.bind_eq_some_iff.mp H
    obtain ⟨⟨t396, t399, t400, t403, t406, t407, t410⟩, A60, H⟩ := H
    replace H : ((impl_ShapeIn.f kj2 t396 t399 t400 t403 t406 t407 t410).bind fun t415 => ((spec_ShapeIn.f kj2 t396 t399 t400 t403 t406 t407 t410).bind fun t416 => (if (t415 != t416) = true then (laws_FnShapeOrder.j1 kj2 l1 t396 t415 true t399 t400 t403 t406 t407 t410) else (laws_FnShapeOrder.j1 kj2 l1 t396 t415 (!t415) t399 t400 t403 t406 t407 t410)))) = some r := H
    have A6 := Aside0.mk A60
    clear A60
    obtain ⟨t415, A7, H⟩ := ob H
    have HC8 := Aside0.mk H
    clear H
    go_upto_region 5 with (first | ((with_reducible refine gc 4 rfl ?_); refine gl (some 20) Try.func4 #[.slice A0 l0.length c0] rfl ?_; (with_reducible refine (spec_DrawShapeIn.calls kj2 _ _ l0 t396 t399 t400 t403 t406 t407 t410 _ ?side1 ?side2 A6.out).mono ?_); (case side1 => exact cb HR0.out); (case side2 => exact HC0.out); rintro e w9 ⟨v397, v401, v404, v408, v411, rfl, ho0, ho1, ho2, ho3, ho4, hb⟩; refine ⟨_, rfl, ?_⟩; have HO398 := Aside0.mk (Kd.N_lower (Kd.N_mono (ok' := fun k_ => some k_ ≠ (v401 : Value).ownBlock ∧ some k_ ≠ (v404 : Value).ownBlock ∧ some k_ ≠ (v408 : Value).ownBlock ∧ some k_ ≠ (v411 : Value).ownBlock) ho0 (fun k_ hk_ => ⟨hk_.2.1, hk_.2.2.1, hk_.2.2.2.1, hk_.2.2.2.2⟩)) (below_size bl)); have HO402 := Aside0.mk (Kd.R_lower (Kd.R_mono (ok' := fun k_ => some k_ ≠ (v404 : Value).ownBlock ∧ some k_ ≠ (v408 : Value).ownBlock ∧ some k_ ≠ (v411 : Value).ownBlock) ho1 (fun _ hk_ => hk_.2)) (below_size bl)); have HO405 := Aside0.mk (Kd.Q_lower (Kd.Q_mono (ok' := fun k_ => some k_ ≠ (v401 : Value).ownBlock ∧ some k_ ≠ (v408 : Value).ownBlock ∧ some k_ ≠ (v411 : Value).ownBlock) ho2 (fun _ hk_ => hk_.2)) (below_size bl)); have HO409 := Aside0.mk (Kd.R_lower (Kd.R_mono (ok' := fun k_ => some k_ ≠ (v401 : Value).ownBlock ∧ some k_ ≠ (v404 : Value).ownBlock ∧ some k_ ≠ (v411 : Value).ownBlock) ho3 (fun _ hk_ => hk_.2)) (below_size bl)); have HO412 := Aside0.mk (Kd.Q_lower (Kd.Q_mono (ok' := fun k_ => some k_ ≠ (v401 : Value).ownBlock ∧ some k_ ≠ (v404 : Value).ownBlock ∧ some k_ ≠ (v408 : Value).ownBlock) ho4 (fun _ hk_ => hk_.2)) (below_size bl)); replace HB := hs HB hb) | ((with_reducible refine gd 6 rfl ?_); (try (refine gate_guard (by rfl) ?_; dsimp only)); refine bx 6 #[.bool false, .slice none 0 0, .slice none 0 0] 26 ?_; intro gb413 hg w10 hbox hb; have BK413 := Aside0.mk hbox; have GW413 := hz HB hg; have GE413 := hz HB hg; replace HO398 := Aside0.mk (Kd.N_below (Kd.N_elderB HO398.out gb413 (Nat.le_of_eq hg.symm)) hb); replace HO402 := rb HO402 hb; replace HO405 := qb HO405 hb; replace HO409 := rb HO409 hb; replace HO412 := qb HO412 hb; replace HB := hs HB hb; clear hb hbox hg) | ((with_reducible refine gd 7 rfl ?_); (try (refine gate_guard (by rfl) ?_; dsimp only)); refine bx 7 #[.bool false, .slice none 0 0, .slice none 0 0] 26 ?_; intro gb414 hg w11 hbox hb; have BK414 := Aside0.mk hbox; have GW414 := hz HB hg; have GE414 := hz HB hg; have NB413_414 := nl BK413 hg; have NB414_413 := ng BK413 hg; replace HO398 := Aside0.mk (Kd.N_below (Kd.N_elderB HO398.out gb414 (Nat.le_of_eq hg.symm)) hb); replace HO402 := rb HO402 hb; replace HO405 := qb HO405 hb; replace HO409 := rb HO409 hb; replace HO412 := qb HO412 hb; replace BK413 := kb BK413 hb; replace HB := hs HB hb; clear hb hbox hg; have hnb12 := NB413_414.out; have hnc12 := NB414_413.out; obtain ⟨_,_,_,_,_,_⟩ := cf3 BK413; obtain ⟨Ao14, co14, eo14⟩ := Kd.R_slice HO402.out; subst eo14; obtain ⟨Ao15, co15, eo15, _⟩ := Kd.Q_slice HO405.out; subst eo15; obtain ⟨_,_,_,_,_,_⟩ := cf3 BK414; obtain ⟨Ao17, co17, eo17⟩ := Kd.R_slice HO409.out; subst eo17; obtain ⟨Ao18, co18, eo18, _⟩ := Kd.Q_slice HO412.out; subst eo18; obtain ⟨Ao19, co19, eo19⟩ := Kd.N_slice HO398.out; subst eo19) | ((with_reducible refine gc 5 rfl ?_); refine gl (some 27) Try.func5 #[.slice Ao19 t396.length co19, .agg #[.bool t399, .slice Ao14 t400.length co14, .slice Ao15 t403.length co15], .agg #[.bool t406, .slice Ao17 t407.length co17, .slice Ao18 t410.length co18]] rfl ?_; (with_reducible refine (impl_ShapeIn.calls kj2 _ _ t396 t399 _ _ t400 _ _ t403 t406 _ _ t407 _ _ t410 t415 _ ?side1 ?side2 ?side3 ?side4 ?side5 ?side6 ?side7 ?side8 ?side9 ?side10 A7.out).mono ?_); (case side1 => refine (Kd.N_reads' (e := 48) (base := w.heap.size) (ok := fun k_ => (((so k_ Ao14 t400 co14 ∧ (so k_ Ao15 t403 co15 ∧ (so k_ Ao17 t407 co17 ∧ so k_ Ao18 t410 co18))) ∧ k_ ≠ gb413) ∧ k_ ≠ gb414)) (n := t396.length) (c := co19) ?_).2.2; exact ((Kd.N_mono (Kd.N_mono (Kd.N_far (p := ⟨gb414, 2, none⟩) (Kd.N_far (p := ⟨gb414, 1, none⟩) (Kd.N_far (p := ⟨gb414, 0, none⟩) (Kd.N_far (p := ⟨gb413, 2, none⟩) (Kd.N_far (p := ⟨gb413, 1, none⟩) (Kd.N_far (p := ⟨gb413, 0, none⟩) (Kd.N_mono (Kd.N_mono HO398.out (fun k_ hk => (⟨hk, hk.1.2⟩ : _ ∧ k_ ≠ gb413))) (fun k_ hk => (⟨hk, hk.1.2⟩ : _ ∧ k_ ≠ gb414))) (fun _ hk => hk.1.2) (.bool t399)) (fun _ hk => hk.1.2) (.slice Ao14 t400.length co14)) (fun _ hk => hk.1.2) (.slice Ao15 t403.length co15)) (fun _ hk => hk.2) (.bool t406)) (fun _ hk => hk.2) (.slice Ao17 t407.length co17)) (fun _ hk => hk.2) (.slice Ao18 t410.length co18)) (fun _ h_ => h_.1)) (fun _ h_ => h_.1)))); (case side2 => exact (Kd.N_reads' HO398.out).2.1); (case side3 => refine (Kd.R_reads' (e := 3) (base := w.heap.size) (ok := fun k_ => (so k_ Ao15 t403 co15 ∧ (so k_ Ao17 t407 co17 ∧ so k_ Ao18 t410 co18))) (n := t400.length) (c := co14) ?_).2.2; exact ((Kd.R_mono (Kd.R_mono (Kd.R_far (p := ⟨gb414, 2, none⟩) (Kd.R_far (p := ⟨gb414, 1, none⟩) (Kd.R_far (p := ⟨gb414, 0, none⟩) (Kd.R_far (p := ⟨gb413, 2, none⟩) (Kd.R_far (p := ⟨gb413, 1, none⟩) (Kd.R_far (p := ⟨gb413, 0, none⟩) (Kd.R_types (Kd.R_types HO402.out BK413.out (by decide)) BK414.out (by decide)) (fun _ hk => hk.1.2) (.bool t399)) (fun _ hk => hk.1.2) (.slice Ao14 t400.length co14)) (fun _ hk => hk.1.2) (.slice Ao15 t403.length co15)) (fun _ hk => hk.2) (.bool t406)) (fun _ hk => hk.2) (.slice Ao17 t407.length co17)) (fun _ hk => hk.2) (.slice Ao18 t410.length co18)) (fun _ h_ => h_.1)) (fun _ h_ => h_.1)))); (case side4 => exact (Kd.R_reads' HO402.out).2.1); (case side5 => refine (Kd.Q_reads' (e := 3) (base := w.heap.size) (ok := fun k_ => (so k_ Ao14 t400 co14 ∧ (so k_ Ao17 t407 co17 ∧ so k_ Ao18 t410 co18))) (n := t403.length) (c := co15) ?_).2.2; exact ((Kd.Q_mono (Kd.Q_mono (Kd.Q_far (p := ⟨gb414, 2, none⟩) (Kd.Q_far (p := ⟨gb414, 1, none⟩) (Kd.Q_far (p := ⟨gb414, 0, none⟩) (Kd.Q_far (p := ⟨gb413, 2, none⟩) (Kd.Q_far (p := ⟨gb413, 1, none⟩) (Kd.Q_far (p := ⟨gb413, 0, none⟩) (Kd.Q_types (Kd.Q_types HO405.out BK413.out (by decide)) BK414.out (by decide)) (fun _ hk => hk.1.2) (.bool t399)) (fun _ hk => hk.1.2) (.slice Ao14 t400.length co14)) (fun _ hk => hk.1.2) (.slice Ao15 t403.length co15)) (fun _ hk => hk.2) (.bool t406)) (fun _ hk => hk.2) (.slice Ao17 t407.length co17)) (fun _ hk => hk.2) (.slice Ao18 t410.length co18)) (fun _ h_ => h_.1)) (fun _ h_ => h_.1)))); (case side6 => exact (Kd.Q_reads' HO405.out).2.1); (case side7 => refine (Kd.R_reads' (e := 3) (base := w.heap.size) (ok := fun k_ => (so k_ Ao14 t400 co14 ∧ (so k_ Ao15 t403 co15 ∧ so k_ Ao18 t410 co18))) (n := t407.length) (c := co17) ?_).2.2; exact ((Kd.R_mono (Kd.R_mono (Kd.R_far (p := ⟨gb414, 2, none⟩) (Kd.R_far (p := ⟨gb414, 1, none⟩) (Kd.R_far (p := ⟨gb414, 0, none⟩) (Kd.R_far (p := ⟨gb413, 2, none⟩) (Kd.R_far (p := ⟨gb413, 1, none⟩) (Kd.R_far (p := ⟨gb413, 0, none⟩) (Kd.R_types (Kd.R_types HO409.out BK413.out (by decide)) BK414.out (by decide)) (fun _ hk => hk.1.2) (.bool t399)) (fun _ hk => hk.1.2) (.slice Ao14 t400.length co14)) (fun _ hk => hk.1.2) (.slice Ao15 t403.length co15)) (fun _ hk => hk.2) (.bool t406)) (fun _ hk => hk.2) (.slice Ao17 t407.length co17)) (fun _ hk => hk.2) (.slice Ao18 t410.length co18)) (fun _ h_ => h_.1)) (fun _ h_ => h_.1)))); (case side8 => exact (Kd.R_reads' HO409.out).2.1); (case side9 => refine (Kd.Q_reads' (e := 3) (base := w.heap.size) (ok := fun k_ => (so k_ Ao14 t400 co14 ∧ (so k_ Ao15 t403 co15 ∧ so k_ Ao17 t407 co17))) (n := t410.length) (c := co18) ?_).2.2; exact ((Kd.Q_mono (Kd.Q_mono (Kd.Q_far (p := ⟨gb414, 2, none⟩) (Kd.Q_far (p := ⟨gb414, 1, none⟩) (Kd.Q_far (p := ⟨gb414, 0, none⟩) (Kd.Q_far (p := ⟨gb413, 2, none⟩) (Kd.Q_far (p := ⟨gb413, 1, none⟩) (Kd.Q_far (p := ⟨gb413, 0, none⟩) (Kd.Q_types (Kd.Q_types HO412.out BK413.out (by decide)) BK414.out (by decide)) (fun _ hk => hk.1.2) (.bool t399)) (fun _ hk => hk.1.2) (.slice Ao14 t400.length co14)) (fun _ hk => hk.1.2) (.slice Ao15 t403.length co15)) (fun _ hk => hk.2) (.bool t406)) (fun _ hk => hk.2) (.slice Ao17 t407.length co17)) (fun _ hk => hk.2) (.slice Ao18 t410.length co18)) (fun _ h_ => h_.1)) (fun _ h_ => h_.1)))); (case side10 => exact (Kd.Q_reads' HO412.out).2.1); rintro e w20 ⟨rfl, hb⟩; refine ⟨_, rfl, ?_⟩; replace HO398 := Aside0.mk (Kd.N_below ((Kd.N_mono (Kd.N_mono (Kd.N_far (p := ⟨gb414, 2, none⟩) (Kd.N_far (p := ⟨gb414, 1, none⟩) (Kd.N_far (p := ⟨gb414, 0, none⟩) (Kd.N_far (p := ⟨gb413, 2, none⟩) (Kd.N_far (p := ⟨gb413, 1, none⟩) (Kd.N_far (p := ⟨gb413, 0, none⟩) (Kd.N_mono (Kd.N_mono HO398.out (fun k_ hk => (⟨hk, hk.1.2⟩ : _ ∧ k_ ≠ gb413))) (fun k_ hk => (⟨hk, hk.1.2⟩ : _ ∧ k_ ≠ gb414))) (fun _ hk => hk.1.2) (.bool t399)) (fun _ hk => hk.1.2) (.slice Ao14 t400.length co14)) (fun _ hk => hk.1.2) (.slice Ao15 t403.length co15)) (fun _ hk => hk.2) (.bool t406)) (fun _ hk => hk.2) (.slice Ao17 t407.length co17)) (fun _ hk => hk.2) (.slice Ao18 t410.length co18)) (fun _ h_ => h_.1)) (fun _ h_ => h_.1))) hb); replace HO402 := Aside0.mk (Kd.R_below ((Kd.R_mono (Kd.R_mono (Kd.R_far (p := ⟨gb414, 2, none⟩) (Kd.R_far (p := ⟨gb414, 1, none⟩) (Kd.R_far (p := ⟨gb414, 0, none⟩) (Kd.R_far (p := ⟨gb413, 2, none⟩) (Kd.R_far (p := ⟨gb413, 1, none⟩) (Kd.R_far (p := ⟨gb413, 0, none⟩) (Kd.R_types (Kd.R_types HO402.out BK413.out (by decide)) BK414.out (by decide)) (fun _ hk => hk.1.2) (.bool t399)) (fun _ hk => hk.1.2) (.slice Ao14 t400.length co14)) (fun _ hk => hk.1.2) (.slice Ao15 t403.length co15)) (fun _ hk => hk.2) (.bool t406)) (fun _ hk => hk.2) (.slice Ao17 t407.length co17)) (fun _ hk => hk.2) (.slice Ao18 t410.length co18)) (fun _ h_ => h_.1)) (fun _ h_ => h_.1))) hb); replace HO405 := Aside0.mk (Kd.Q_below ((Kd.Q_mono (Kd.Q_mono (Kd.Q_far (p := ⟨gb414, 2, none⟩) (Kd.Q_far (p := ⟨gb414, 1, none⟩) (Kd.Q_far (p := ⟨gb414, 0, none⟩) (Kd.Q_far (p := ⟨gb413, 2, none⟩) (Kd.Q_far (p := ⟨gb413, 1, none⟩) (Kd.Q_far (p := ⟨gb413, 0, none⟩) (Kd.Q_types (Kd.Q_types HO405.out BK413.out (by decide)) BK414.out (by decide)) (fun _ hk => hk.1.2) (.bool t399)) (fun _ hk => hk.1.2) (.slice Ao14 t400.length co14)) (fun _ hk => hk.1.2) (.slice Ao15 t403.length co15)) (fun _ hk => hk.2) (.bool t406)) (fun _ hk => hk.2) (.slice Ao17 t407.length co17)) (fun _ hk => hk.2) (.slice Ao18 t410.length co18)) (fun _ h_ => h_.1)) (fun _ h_ => h_.1))) hb); replace HO409 := Aside0.mk (Kd.R_below ((Kd.R_mono (Kd.R_mono (Kd.R_far (p := ⟨gb414, 2, none⟩) (Kd.R_far (p := ⟨gb414, 1, none⟩) (Kd.R_far (p := ⟨gb414, 0, none⟩) (Kd.R_far (p := ⟨gb413, 2, none⟩) (Kd.R_far (p := ⟨gb413, 1, none⟩) (Kd.R_far (p := ⟨gb413, 0, none⟩) (Kd.R_types (Kd.R_types HO409.out BK413.out (by decide)) BK414.out (by decide)) (fun _ hk => hk.1.2) (.bool t399)) (fun _ hk => hk.1.2) (.slice Ao14 t400.length co14)) (fun _ hk => hk.1.2) (.slice Ao15 t403.length co15)) (fun _ hk => hk.2) (.bool t406)) (fun _ hk => hk.2) (.slice Ao17 t407.length co17)) (fun _ hk => hk.2) (.slice Ao18 t410.length co18)) (fun _ h_ => h_.1)) (fun _ h_ => h_.1))) hb); replace HO412 := Aside0.mk (Kd.Q_below ((Kd.Q_mono (Kd.Q_mono (Kd.Q_far (p := ⟨gb414, 2, none⟩) (Kd.Q_far (p := ⟨gb414, 1, none⟩) (Kd.Q_far (p := ⟨gb414, 0, none⟩) (Kd.Q_far (p := ⟨gb413, 2, none⟩) (Kd.Q_far (p := ⟨gb413, 1, none⟩) (Kd.Q_far (p := ⟨gb413, 0, none⟩) (Kd.Q_types (Kd.Q_types HO412.out BK413.out (by decide)) BK414.out (by decide)) (fun _ hk => hk.1.2) (.bool t399)) (fun _ hk => hk.1.2) (.slice Ao14 t400.length co14)) (fun _ hk => hk.1.2) (.slice Ao15 t403.length co15)) (fun _ hk => hk.2) (.bool t406)) (fun _ hk => hk.2) (.slice Ao17 t407.length co17)) (fun _ hk => hk.2) (.slice Ao18 t410.length co18)) (fun _ h_ => h_.1)) (fun _ h_ => h_.1))) hb); replace BK413 := kp2 gb413 #[.bool t399, .slice Ao14 t400.length co14, .slice Ao15 t403.length co15] 26 hb; replace BK414 := kp2 gb414 #[.bool t406, .slice Ao17 t407.length co17, .slice Ao18 t410.length co18] 26 hb; replace HB := hs HB hb))
    (try simp only [Act.put, List.setIfInBounds_toArray, List.set_cons_zero, List.set_cons_succ])
    go_cut [37] (fun v37 wc => ∃ (kq : Nat) (x37_7 : Bool), v37 = .bool x37_7 ∧ Aside0 (laws_FnShapeOrder.j1 kq l1 t396 t415 x37_7 t399 t400 t403 t406 t407 t410 = some r) ∧ Aside0 (kq ≤ kj2) ∧ Aside0 (Kd.N k48 48 wc w.heap.size (fun k_ => some k_ ≠ ((.slice Ao14 t400.length co14) : Value).ownBlock ∧ some k_ ≠ ((.slice Ao15 t403.length co15) : Value).ownBlock ∧ some k_ ≠ ((.slice Ao17 t407.length co17) : Value).ownBlock ∧ some k_ ≠ ((.slice Ao18 t410.length co18) : Value).ownBlock ∧ k_ ≠ gb413 ∧ k_ ≠ gb414) (.slice Ao19 t396.length co19) t396) ∧ Aside0 (Kd.R (Kd.int .i64) 3 wc w.heap.size (fun k_ => some k_ ≠ ((.slice Ao15 t403.length co15) : Value).ownBlock ∧ some k_ ≠ ((.slice Ao17 t407.length co17) : Value).ownBlock ∧ some k_ ≠ ((.slice Ao18 t410.length co18) : Value).ownBlock) (.slice Ao14 t400.length co14) t400) ∧ Aside0 (Kd.Q (Kd.int .i64) 3 wc w.heap.size (fun k_ => some k_ ≠ ((.slice Ao14 t400.length co14) : Value).ownBlock ∧ some k_ ≠ ((.slice Ao17 t407.length co17) : Value).ownBlock ∧ some k_ ≠ ((.slice Ao18 t410.length co18) : Value).ownBlock) (.slice Ao15 t403.length co15) t403) ∧ Aside0 (Kd.R (Kd.int .i64) 3 wc w.heap.size (fun k_ => some k_ ≠ ((.slice Ao14 t400.length co14) : Value).ownBlock ∧ some k_ ≠ ((.slice Ao15 t403.length co15) : Value).ownBlock ∧ some k_ ≠ ((.slice Ao18 t410.length co18) : Value).ownBlock) (.slice Ao17 t407.length co17) t407) ∧ Aside0 (Kd.Q (Kd.int .i64) 3 wc w.heap.size (fun k_ => some k_ ≠ ((.slice Ao14 t400.length co14) : Value).ownBlock ∧ some k_ ≠ ((.slice Ao15 t403.length co15) : Value).ownBlock ∧ some k_ ≠ ((.slice Ao17 t407.length co17) : Value).ownBlock) (.slice Ao18 t410.length co18) t410) ∧ Aside0 (wc.heap[gb413]? = some (.cells #[.bool t399, (.slice Ao14 t400.length co14), (.slice Ao15 t403.length co15)] 26 (0, 0))) ∧ Aside0 (wc.heap[gb414]? = some (.cells #[.bool t406, (.slice Ao17 t407.length co17), (.slice Ao18 t410.length co18)] 26 (0, 0))) ∧ Aside0 (Below w.heap.size w wc))
    case first =>
     have H := HC8.out
     clear HC8
     obtain ⟨t416, A21, H⟩ := ob H
     by_cases c22 : (t415 != t416) = true
     ·rw [if_pos c22] at H
      have c22b0 : (t415 != t416) = true := c22
      (try (have c22b1 : decide (t415 = t416) = false := by simpa using c22))
      (try (have c22b2 : (t415 == t416) = false := by simpa using c22))
      (try (have c22b3 : ¬ (t415 = t416) := by simpa using c22))
      clear c22
      (first | rw [c22b0] | (simp only [i64_w, i32_w]; rw [c22b0]) | skip)
      have H' := Aside0.mk H
      clear H
      have hnb23 := NB413_414.out
      have hnc23 := NB414_413.out
      obtain ⟨_,_,_,_,_,_⟩ := cf3 BK413
      obtain ⟨_,_,_,_,_,_⟩ := cf3 BK414
      go_wp2_with (first | ((with_reducible refine gc 6 rfl ?_); refine gl (some 32) Try.func6 #[.slice Ao19 t396.length co19, .agg #[.bool t399, .slice Ao14 t400.length co14, .slice Ao15 t403.length co15], .agg #[.bool t406, .slice Ao17 t407.length co17, .slice Ao18 t410.length co18]] rfl ?_; (with_reducible refine (spec_ShapeIn.calls kj2 _ _ t396 t399 _ _ t400 _ _ t403 t406 _ _ t407 _ _ t410 t416 _ ?side1 ?side2 ?side3 ?side4 ?side5 ?side6 ?side7 ?side8 ?side9 ?side10 A21.out).mono ?_); (case side1 => exact (Kd.N_reads' HO398.out).2.2); (case side2 => exact (Kd.N_reads' HO398.out).2.1); (case side3 => exact (Kd.R_reads' HO402.out).2.2); (case side4 => exact (Kd.R_reads' HO402.out).2.1); (case side5 => exact (Kd.Q_reads' HO405.out).2.2); (case side6 => exact (Kd.Q_reads' HO405.out).2.1); (case side7 => exact (Kd.R_reads' HO409.out).2.2); (case side8 => exact (Kd.R_reads' HO409.out).2.1); (case side9 => exact (Kd.Q_reads' HO412.out).2.2); (case side10 => exact (Kd.Q_reads' HO412.out).2.1); rintro e w26 ⟨rfl, hb⟩; refine ⟨_, rfl, ?_⟩; replace HO398 := nb HO398 hb; replace HO402 := rb HO402 hb; replace HO405 := qb HO405 hb; replace HO409 := rb HO409 hb; replace HO412 := qb HO412 hb; replace BK413 := kb BK413 hb; replace BK414 := kb BK414 hb; replace HB := hs HB hb))
      go_meet
      case rel => exact ⟨_, (true), (by first | rfl | (simp; done) | (simp [*]; done)), H', ⟨by have := HJ2.out; first | omega | exact Nat.le_refl _⟩, ⟨by exact Kd.N_mono HO398.out (fun _ hk => ⟨hk.1.1.1, ⟨hk.1.1.2.1, ⟨hk.1.1.2.2.1, ⟨hk.1.1.2.2.2, ⟨hk.1.2, hk.2⟩⟩⟩⟩⟩)⟩, ⟨HO402.out⟩, ⟨HO405.out⟩, ⟨HO409.out⟩, ⟨HO412.out⟩, kk BK413, kk BK414, ⟨bl⟩⟩
     ·rw [if_neg c22] at H
      have c22b0 : (t415 != t416) = false := by simpa using c22
      (try (have c22b1 : decide (t415 = t416) = true := by simpa using c22))
      (try (have c22b2 : (t415 == t416) = true := by simpa using c22))
      clear c22
      (first | rw [c22b0] | (simp only [i64_w, i32_w]; rw [c22b0]) | skip)
      have H' := Aside0.mk H
      clear H
      have hnb27 := NB413_414.out
      have hnc27 := NB414_413.out
      obtain ⟨_,_,_,_,_,_⟩ := cf3 BK413
      obtain ⟨_,_,_,_,_,_⟩ := cf3 BK414
      go_wp2_with (first | ((with_reducible refine gc 6 rfl ?_); refine gl (some 32) Try.func6 #[.slice Ao19 t396.length co19, .agg #[.bool t399, .slice Ao14 t400.length co14, .slice Ao15 t403.length co15], .agg #[.bool t406, .slice Ao17 t407.length co17, .slice Ao18 t410.length co18]] rfl ?_; (with_reducible refine (spec_ShapeIn.calls kj2 _ _ t396 t399 _ _ t400 _ _ t403 t406 _ _ t407 _ _ t410 t416 _ ?side1 ?side2 ?side3 ?side4 ?side5 ?side6 ?side7 ?side8 ?side9 ?side10 A21.out).mono ?_); (case side1 => exact (Kd.N_reads' HO398.out).2.2); (case side2 => exact (Kd.N_reads' HO398.out).2.1); (case side3 => exact (Kd.R_reads' HO402.out).2.2); (case side4 => exact (Kd.R_reads' HO402.out).2.1); (case side5 => exact (Kd.Q_reads' HO405.out).2.2); (case side6 => exact (Kd.Q_reads' HO405.out).2.1); (case side7 => exact (Kd.R_reads' HO409.out).2.2); (case side8 => exact (Kd.R_reads' HO409.out).2.1); (case side9 => exact (Kd.Q_reads' HO412.out).2.2); (case side10 => exact (Kd.Q_reads' HO412.out).2.1); rintro e w30 ⟨rfl, hb⟩; refine ⟨_, rfl, ?_⟩; replace HO398 := nb HO398 hb; replace HO402 := rb HO402 hb; replace HO405 := qb HO405 hb; replace HO409 := rb HO409 hb; replace HO412 := qb HO412 hb; replace BK413 := kb BK413 hb; replace BK414 := kb BK414 hb; replace HB := hs HB hb))
      go_meet
      case rel => exact ⟨_, (!t415), (by first | rfl | (simp; done) | (simp [*]; done)), H', ⟨by have := HJ2.out; first | omega | exact Nat.le_refl _⟩, ⟨by exact Kd.N_mono HO398.out (fun _ hk => ⟨hk.1.1.1, ⟨hk.1.1.2.1, ⟨hk.1.1.2.2.1, ⟨hk.1.1.2.2.2, ⟨hk.1.2, hk.2⟩⟩⟩⟩⟩)⟩, ⟨HO402.out⟩, ⟨HO405.out⟩, ⟨HO409.out⟩, ⟨HO412.out⟩, kk BK413, kk BK414, ⟨bl⟩⟩
    case rest =>
     clear HC8
     obtain ⟨kq, x37_7, rfl, HA, HJ7, HO_5, HO_414001, HO_414002, HO_415001, HO_415002, BK413, BK414, HB⟩ := hcut
     cases kq with
     | zero => exact absurd HA.out (by simp [laws_FnShapeOrder.j1])
     | succ kj7 =>
      have H := HA.out
      clear HA
      simp only [laws_FnShapeOrder.j1] at H
      by_cases c31 : x37_7 = true
      ·subst c31
       replace H := it H
       obtain ⟨t417, A32, H⟩ := ob H
       obtain rfl := Option.some.inj H; clear H
       have hnb33 := NB413_414.out
       have hnc33 := NB414_413.out
       obtain ⟨_,_,_,_,_,_⟩ := cf3 BK413
       obtain ⟨_,_,_,_,_,_⟩ := cf3 BK414
       go_wp2_with (first | ((with_reducible refine gc 6 rfl ?_); refine gl (some 42) Try.func6 #[.slice Ao19 t396.length co19, .agg #[.bool t399, .slice Ao14 t400.length co14, .slice Ao15 t403.length co15], .agg #[.bool t406, .slice Ao17 t407.length co17, .slice Ao18 t410.length co18]] rfl ?_; (with_reducible refine (spec_ShapeIn.calls kj7 _ _ t396 t399 _ _ t400 _ _ t403 t406 _ _ t407 _ _ t410 t417 _ ?side1 ?side2 ?side3 ?side4 ?side5 ?side6 ?side7 ?side8 ?side9 ?side10 A32.out).mono ?_); (case side1 => exact (Kd.N_reads' HO_5.out).2.2); (case side2 => exact (Kd.N_reads' HO_5.out).2.1); (case side3 => exact (Kd.R_reads' HO_414001.out).2.2); (case side4 => exact (Kd.R_reads' HO_414001.out).2.1); (case side5 => exact (Kd.Q_reads' HO_414002.out).2.2); (case side6 => exact (Kd.Q_reads' HO_414002.out).2.1); (case side7 => exact (Kd.R_reads' HO_415001.out).2.2); (case side8 => exact (Kd.R_reads' HO_415001.out).2.1); (case side9 => exact (Kd.Q_reads' HO_415002.out).2.2); (case side10 => exact (Kd.Q_reads' HO_415002.out).2.1); rintro e w36 ⟨rfl, hb⟩; refine ⟨_, rfl, ?_⟩; replace HO_5 := nb HO_5 hb; replace HO_414001 := rb HO_414001 hb; replace HO_414002 := qb HO_414002 hb; replace HO_415001 := rb HO_415001 hb; replace HO_415002 := qb HO_415002 hb; replace BK413 := kb BK413 hb; replace BK414 := kb BK414 hb; replace HB := hs HB hb))
       go_ret
       exact fin
      ·replace c31 := Bool.eq_false_iff.mpr c31
       subst c31
       replace H := ie H
       have HC37 := Aside0.mk H
       clear H
       go_upto_region 7 with (fail)
       go_cut [67] (fun v67 wc => ∃ (kq : Nat) (x67_36 : Bool), v67 = .bool x67_36 ∧ Aside0 (laws_FnShapeOrder.j2 kq l1 t396 x67_36 t399 t400 t403 t406 t407 t410 = some r) ∧ Aside0 (kq ≤ kj7) ∧ Aside0 (Kd.N k48 48 wc w.heap.size (fun k_ => some k_ ≠ ((.slice Ao14 t400.length co14) : Value).ownBlock ∧ some k_ ≠ ((.slice Ao15 t403.length co15) : Value).ownBlock ∧ some k_ ≠ ((.slice Ao17 t407.length co17) : Value).ownBlock ∧ some k_ ≠ ((.slice Ao18 t410.length co18) : Value).ownBlock ∧ k_ ≠ gb413 ∧ k_ ≠ gb414) (.slice Ao19 t396.length co19) t396) ∧ Aside0 (Kd.R (Kd.int .i64) 3 wc w.heap.size (fun k_ => some k_ ≠ ((.slice Ao15 t403.length co15) : Value).ownBlock ∧ some k_ ≠ ((.slice Ao17 t407.length co17) : Value).ownBlock ∧ some k_ ≠ ((.slice Ao18 t410.length co18) : Value).ownBlock) (.slice Ao14 t400.length co14) t400) ∧ Aside0 (Kd.Q (Kd.int .i64) 3 wc w.heap.size (fun k_ => some k_ ≠ ((.slice Ao14 t400.length co14) : Value).ownBlock ∧ some k_ ≠ ((.slice Ao17 t407.length co17) : Value).ownBlock ∧ some k_ ≠ ((.slice Ao18 t410.length co18) : Value).ownBlock) (.slice Ao15 t403.length co15) t403) ∧ Aside0 (Kd.R (Kd.int .i64) 3 wc w.heap.size (fun k_ => some k_ ≠ ((.slice Ao14 t400.length co14) : Value).ownBlock ∧ some k_ ≠ ((.slice Ao15 t403.length co15) : Value).ownBlock ∧ some k_ ≠ ((.slice Ao18 t410.length co18) : Value).ownBlock) (.slice Ao17 t407.length co17) t407) ∧ Aside0 (Kd.Q (Kd.int .i64) 3 wc w.heap.size (fun k_ => some k_ ≠ ((.slice Ao14 t400.length co14) : Value).ownBlock ∧ some k_ ≠ ((.slice Ao15 t403.length co15) : Value).ownBlock ∧ some k_ ≠ ((.slice Ao17 t407.length co17) : Value).ownBlock) (.slice Ao18 t410.length co18) t410) ∧ Aside0 (wc.heap[gb413]? = some (.cells #[.bool t399, (.slice Ao14 t400.length co14), (.slice Ao15 t403.length co15)] 26 (0, 0))) ∧ Aside0 (wc.heap[gb414]? = some (.cells #[.bool t406, (.slice Ao17 t407.length co17), (.slice Ao18 t410.length co18)] 26 (0, 0))) ∧ Aside0 (Below w.heap.size w wc))
       case first =>
        have H := HC37.out
        clear HC37
        obtain ⟨t418, A38, H⟩ := ob H
        by_cases c39 : t418 = true
        ·subst c39
         replace H := it H
         obtain ⟨t419, A40, H⟩ := ob H
         by_cases c41 : t419 = true
         ·subst c41
          replace H := it H
          obtain ⟨t420, A42, H⟩ := ob H
          by_cases c43 : t420 = true
          ·subst c43
           replace H := it H
           obtain ⟨t421, A44, H⟩ := ob H
           have H' := Aside0.mk H
           clear H
           have hnb45 := NB413_414.out
           have hnc45 := NB414_413.out
           obtain ⟨_,_,_,_,_,_⟩ := cf3 BK413
           go_wp2_with (first | ((with_reducible refine gc 5 rfl ?_); refine gl (some 47) Try.func5 #[.slice Ao19 t396.length co19, .agg #[.bool t399, .slice Ao14 t400.length co14, .slice Ao15 t403.length co15], .agg #[.bool t399, .slice Ao14 t400.length co14, .slice Ao15 t403.length co15]] rfl ?_; (with_reducible refine (impl_ShapeIn.calls kj7 _ _ t396 t399 _ _ t400 _ _ t403 t399 _ _ t400 _ _ t403 true _ ?side1 ?side2 ?side3 ?side4 ?side5 ?side6 ?side7 ?side8 ?side9 ?side10 A38.out).mono ?_); (case side1 => exact (Kd.N_reads' HO_5.out).2.2); (case side2 => exact (Kd.N_reads' HO_5.out).2.1); (case side3 => exact (Kd.R_reads' HO_414001.out).2.2); (case side4 => exact (Kd.R_reads' HO_414001.out).2.1); (case side5 => exact (Kd.Q_reads' HO_414002.out).2.2); (case side6 => exact (Kd.Q_reads' HO_414002.out).2.1); (case side7 => exact (Kd.R_reads' HO_414001.out).2.2); (case side8 => exact (Kd.R_reads' HO_414001.out).2.1); (case side9 => exact (Kd.Q_reads' HO_414002.out).2.2); (case side10 => exact (Kd.Q_reads' HO_414002.out).2.1); rintro e w47 ⟨rfl, hb⟩; refine ⟨_, rfl, ?_⟩; replace HO_5 := nb HO_5 hb; replace HO_414001 := rb HO_414001 hb; replace HO_414002 := qb HO_414002 hb; replace HO_415001 := rb HO_415001 hb; replace HO_415002 := qb HO_415002 hb; replace BK413 := kb BK413 hb; replace BK414 := kb BK414 hb; replace HB := hs HB hb; obtain ⟨_,_,_,_,_,_⟩ := cf3 BK414) | (go_at_call 5; (with_reducible refine (impl_ShapeIn.calls kj7 _ _ t396 t406 _ _ t407 _ _ t410 t406 _ _ t407 _ _ t410 true _ ?side1 ?side2 ?side3 ?side4 ?side5 ?side6 ?side7 ?side8 ?side9 ?side10 A40.out).mono ?_); (case side1 => exact (Kd.N_reads' HO_5.out).2.2); (case side2 => exact (Kd.N_reads' HO_5.out).2.1); (case side3 => exact (Kd.R_reads' HO_415001.out).2.2); (case side4 => exact (Kd.R_reads' HO_415001.out).2.1); (case side5 => exact (Kd.Q_reads' HO_415002.out).2.2); (case side6 => exact (Kd.Q_reads' HO_415002.out).2.1); (case side7 => exact (Kd.R_reads' HO_415001.out).2.2); (case side8 => exact (Kd.R_reads' HO_415001.out).2.1); (case side9 => exact (Kd.Q_reads' HO_415002.out).2.2); (case side10 => exact (Kd.Q_reads' HO_415002.out).2.1); rintro e w49 ⟨rfl, hb⟩; replace HO_5 := nb HO_5 hb; replace HO_414001 := rb HO_414001 hb; replace HO_414002 := qb HO_414002 hb; replace HO_415001 := rb HO_415001 hb; replace HO_415002 := qb HO_415002 hb; replace BK413 := kb BK413 hb; replace BK414 := kb BK414 hb; replace HB := hs HB hb; obtain ⟨_,_,_,_,_,_⟩ := cf3 BK414; obtain ⟨_,_,_,_,_,_⟩ := cf3 BK413) | (go_at_call 5; (with_reducible refine (impl_ShapeIn.calls kj7 _ _ t396 t406 _ _ t407 _ _ t410 t399 _ _ t400 _ _ t403 true _ ?side1 ?side2 ?side3 ?side4 ?side5 ?side6 ?side7 ?side8 ?side9 ?side10 A42.out).mono ?_); (case side1 => exact (Kd.N_reads' HO_5.out).2.2); (case side2 => exact (Kd.N_reads' HO_5.out).2.1); (case side3 => exact (Kd.R_reads' HO_415001.out).2.2); (case side4 => exact (Kd.R_reads' HO_415001.out).2.1); (case side5 => exact (Kd.Q_reads' HO_415002.out).2.2); (case side6 => exact (Kd.Q_reads' HO_415002.out).2.1); (case side7 => exact (Kd.R_reads' HO_414001.out).2.2); (case side8 => exact (Kd.R_reads' HO_414001.out).2.1); (case side9 => exact (Kd.Q_reads' HO_414002.out).2.2); (case side10 => exact (Kd.Q_reads' HO_414002.out).2.1); rintro e w52 ⟨rfl, hb⟩; replace HO_5 := nb HO_5 hb; replace HO_414001 := rb HO_414001 hb; replace HO_414002 := qb HO_414002 hb; replace HO_415001 := rb HO_415001 hb; replace HO_415002 := qb HO_415002 hb; replace BK413 := kb BK413 hb; replace BK414 := kb BK414 hb; replace HB := hs HB hb; obtain ⟨_,_,_,_,_,_⟩ := cf3 BK413; obtain ⟨_,_,_,_,_,_⟩ := cf3 BK414) | (go_at_call 7; (with_reducible refine (laws_leShape.calls kj7 t399 _ _ t400 _ _ t403 t406 _ _ t407 _ _ t410 t421 _ ?side1 ?side2 ?side3 ?side4 ?side5 ?side6 ?side7 ?side8 A44.out).mono ?_); (case side1 => exact (Kd.R_reads' HO_414001.out).2.2); (case side2 => exact (Kd.R_reads' HO_414001.out).2.1); (case side3 => exact (Kd.Q_reads' HO_414002.out).2.2); (case side4 => exact (Kd.Q_reads' HO_414002.out).2.1); (case side5 => exact (Kd.R_reads' HO_415001.out).2.2); (case side6 => exact (Kd.R_reads' HO_415001.out).2.1); (case side7 => exact (Kd.Q_reads' HO_415002.out).2.2); (case side8 => exact (Kd.Q_reads' HO_415002.out).2.1); rintro e w55 ⟨rfl, hb⟩; replace HO_5 := nb HO_5 hb; replace HO_414001 := rb HO_414001 hb; replace HO_414002 := qb HO_414002 hb; replace HO_415001 := rb HO_415001 hb; replace HO_415002 := qb HO_415002 hb; replace BK413 := kb BK413 hb; replace BK414 := kb BK414 hb; replace HB := hs HB hb))
           go_meet
           case rel => exact ⟨_, (!t421), (by first | rfl | (simp; done) | (simp [*]; done)), H', ⟨by have := HJ2.out; have := HJ7.out; first | omega | exact Nat.le_refl _⟩, ⟨HO_5.out⟩, ⟨HO_414001.out⟩, ⟨HO_414002.out⟩, ⟨HO_415001.out⟩, ⟨HO_415002.out⟩, kk BK413, kk BK414, ⟨bl⟩⟩
          ·replace c43 := Bool.eq_false_iff.mpr c43
           subst c43
           replace H := ie H
           have H' := Aside0.mk H
           clear H
           have hnb56 := NB413_414.out
           have hnc56 := NB414_413.out
           obtain ⟨_,_,_,_,_,_⟩ := cf3 BK413
           go_wp2_with (first | ((with_reducible refine gc 5 rfl ?_); refine gl (some 47) Try.func5 #[.slice Ao19 t396.length co19, .agg #[.bool t399, .slice Ao14 t400.length co14, .slice Ao15 t403.length co15], .agg #[.bool t399, .slice Ao14 t400.length co14, .slice Ao15 t403.length co15]] rfl ?_; (with_reducible refine (impl_ShapeIn.calls kj7 _ _ t396 t399 _ _ t400 _ _ t403 t399 _ _ t400 _ _ t403 true _ ?side1 ?side2 ?side3 ?side4 ?side5 ?side6 ?side7 ?side8 ?side9 ?side10 A38.out).mono ?_); (case side1 => exact (Kd.N_reads' HO_5.out).2.2); (case side2 => exact (Kd.N_reads' HO_5.out).2.1); (case side3 => exact (Kd.R_reads' HO_414001.out).2.2); (case side4 => exact (Kd.R_reads' HO_414001.out).2.1); (case side5 => exact (Kd.Q_reads' HO_414002.out).2.2); (case side6 => exact (Kd.Q_reads' HO_414002.out).2.1); (case side7 => exact (Kd.R_reads' HO_414001.out).2.2); (case side8 => exact (Kd.R_reads' HO_414001.out).2.1); (case side9 => exact (Kd.Q_reads' HO_414002.out).2.2); (case side10 => exact (Kd.Q_reads' HO_414002.out).2.1); rintro e w58 ⟨rfl, hb⟩; refine ⟨_, rfl, ?_⟩; replace HO_5 := nb HO_5 hb; replace HO_414001 := rb HO_414001 hb; replace HO_414002 := qb HO_414002 hb; replace HO_415001 := rb HO_415001 hb; replace HO_415002 := qb HO_415002 hb; replace BK413 := kb BK413 hb; replace BK414 := kb BK414 hb; replace HB := hs HB hb; obtain ⟨_,_,_,_,_,_⟩ := cf3 BK414) | (go_at_call 5; (with_reducible refine (impl_ShapeIn.calls kj7 _ _ t396 t406 _ _ t407 _ _ t410 t406 _ _ t407 _ _ t410 true _ ?side1 ?side2 ?side3 ?side4 ?side5 ?side6 ?side7 ?side8 ?side9 ?side10 A40.out).mono ?_); (case side1 => exact (Kd.N_reads' HO_5.out).2.2); (case side2 => exact (Kd.N_reads' HO_5.out).2.1); (case side3 => exact (Kd.R_reads' HO_415001.out).2.2); (case side4 => exact (Kd.R_reads' HO_415001.out).2.1); (case side5 => exact (Kd.Q_reads' HO_415002.out).2.2); (case side6 => exact (Kd.Q_reads' HO_415002.out).2.1); (case side7 => exact (Kd.R_reads' HO_415001.out).2.2); (case side8 => exact (Kd.R_reads' HO_415001.out).2.1); (case side9 => exact (Kd.Q_reads' HO_415002.out).2.2); (case side10 => exact (Kd.Q_reads' HO_415002.out).2.1); rintro e w60 ⟨rfl, hb⟩; replace HO_5 := nb HO_5 hb; replace HO_414001 := rb HO_414001 hb; replace HO_414002 := qb HO_414002 hb; replace HO_415001 := rb HO_415001 hb; replace HO_415002 := qb HO_415002 hb; replace BK413 := kb BK413 hb; replace BK414 := kb BK414 hb; replace HB := hs HB hb; obtain ⟨_,_,_,_,_,_⟩ := cf3 BK414; obtain ⟨_,_,_,_,_,_⟩ := cf3 BK413) | (go_at_call 5; (with_reducible refine (impl_ShapeIn.calls kj7 _ _ t396 t406 _ _ t407 _ _ t410 t399 _ _ t400 _ _ t403 false _ ?side1 ?side2 ?side3 ?side4 ?side5 ?side6 ?side7 ?side8 ?side9 ?side10 A42.out).mono ?_); (case side1 => exact (Kd.N_reads' HO_5.out).2.2); (case side2 => exact (Kd.N_reads' HO_5.out).2.1); (case side3 => exact (Kd.R_reads' HO_415001.out).2.2); (case side4 => exact (Kd.R_reads' HO_415001.out).2.1); (case side5 => exact (Kd.Q_reads' HO_415002.out).2.2); (case side6 => exact (Kd.Q_reads' HO_415002.out).2.1); (case side7 => exact (Kd.R_reads' HO_414001.out).2.2); (case side8 => exact (Kd.R_reads' HO_414001.out).2.1); (case side9 => exact (Kd.Q_reads' HO_414002.out).2.2); (case side10 => exact (Kd.Q_reads' HO_414002.out).2.1); rintro e w63 ⟨rfl, hb⟩; replace HO_5 := nb HO_5 hb; replace HO_414001 := rb HO_414001 hb; replace HO_414002 := qb HO_414002 hb; replace HO_415001 := rb HO_415001 hb; replace HO_415002 := qb HO_415002 hb; replace BK413 := kb BK413 hb; replace BK414 := kb BK414 hb; replace HB := hs HB hb))
           go_meet
           case rel => exact ⟨_, (false), (by first | rfl | (simp; done) | (simp [*]; done)), H', ⟨by have := HJ2.out; have := HJ7.out; first | omega | exact Nat.le_refl _⟩, ⟨HO_5.out⟩, ⟨HO_414001.out⟩, ⟨HO_414002.out⟩, ⟨HO_415001.out⟩, ⟨HO_415002.out⟩, kk BK413, kk BK414, ⟨bl⟩⟩
         ·replace c41 := Bool.eq_false_iff.mpr c41
          subst c41
          replace H := ie H
          have H' := Aside0.mk H
          clear H
          have hnb64 := NB413_414.out
          have hnc64 := NB414_413.out
          obtain ⟨_,_,_,_,_,_⟩ := cf3 BK413
          go_wp2_with (first | ((with_reducible refine gc 5 rfl ?_); refine gl (some 47) Try.func5 #[.slice Ao19 t396.length co19, .agg #[.bool t399, .slice Ao14 t400.length co14, .slice Ao15 t403.length co15], .agg #[.bool t399, .slice Ao14 t400.length co14, .slice Ao15 t403.length co15]] rfl ?_; (with_reducible refine (impl_ShapeIn.calls kj7 _ _ t396 t399 _ _ t400 _ _ t403 t399 _ _ t400 _ _ t403 true _ ?side1 ?side2 ?side3 ?side4 ?side5 ?side6 ?side7 ?side8 ?side9 ?side10 A38.out).mono ?_); (case side1 => exact (Kd.N_reads' HO_5.out).2.2); (case side2 => exact (Kd.N_reads' HO_5.out).2.1); (case side3 => exact (Kd.R_reads' HO_414001.out).2.2); (case side4 => exact (Kd.R_reads' HO_414001.out).2.1); (case side5 => exact (Kd.Q_reads' HO_414002.out).2.2); (case side6 => exact (Kd.Q_reads' HO_414002.out).2.1); (case side7 => exact (Kd.R_reads' HO_414001.out).2.2); (case side8 => exact (Kd.R_reads' HO_414001.out).2.1); (case side9 => exact (Kd.Q_reads' HO_414002.out).2.2); (case side10 => exact (Kd.Q_reads' HO_414002.out).2.1); rintro e w66 ⟨rfl, hb⟩; refine ⟨_, rfl, ?_⟩; replace HO_5 := nb HO_5 hb; replace HO_414001 := rb HO_414001 hb; replace HO_414002 := qb HO_414002 hb; replace HO_415001 := rb HO_415001 hb; replace HO_415002 := qb HO_415002 hb; replace BK413 := kb BK413 hb; replace BK414 := kb BK414 hb; replace HB := hs HB hb; obtain ⟨_,_,_,_,_,_⟩ := cf3 BK414) | (go_at_call 5; (with_reducible refine (impl_ShapeIn.calls kj7 _ _ t396 t406 _ _ t407 _ _ t410 t406 _ _ t407 _ _ t410 false _ ?side1 ?side2 ?side3 ?side4 ?side5 ?side6 ?side7 ?side8 ?side9 ?side10 A40.out).mono ?_); (case side1 => exact (Kd.N_reads' HO_5.out).2.2); (case side2 => exact (Kd.N_reads' HO_5.out).2.1); (case side3 => exact (Kd.R_reads' HO_415001.out).2.2); (case side4 => exact (Kd.R_reads' HO_415001.out).2.1); (case side5 => exact (Kd.Q_reads' HO_415002.out).2.2); (case side6 => exact (Kd.Q_reads' HO_415002.out).2.1); (case side7 => exact (Kd.R_reads' HO_415001.out).2.2); (case side8 => exact (Kd.R_reads' HO_415001.out).2.1); (case side9 => exact (Kd.Q_reads' HO_415002.out).2.2); (case side10 => exact (Kd.Q_reads' HO_415002.out).2.1); rintro e w68 ⟨rfl, hb⟩; replace HO_5 := nb HO_5 hb; replace HO_414001 := rb HO_414001 hb; replace HO_414002 := qb HO_414002 hb; replace HO_415001 := rb HO_415001 hb; replace HO_415002 := qb HO_415002 hb; replace BK413 := kb BK413 hb; replace BK414 := kb BK414 hb; replace HB := hs HB hb))
          go_meet
          case rel => exact ⟨_, (true), (by first | rfl | (simp; done) | (simp [*]; done)), H', ⟨by have := HJ2.out; have := HJ7.out; first | omega | exact Nat.le_refl _⟩, ⟨HO_5.out⟩, ⟨HO_414001.out⟩, ⟨HO_414002.out⟩, ⟨HO_415001.out⟩, ⟨HO_415002.out⟩, kk BK413, kk BK414, ⟨bl⟩⟩
        ·replace c39 := Bool.eq_false_iff.mpr c39
         subst c39
         replace H := ie H
         have H' := Aside0.mk H
         clear H
         have hnb69 := NB413_414.out
         have hnc69 := NB414_413.out
         obtain ⟨_,_,_,_,_,_⟩ := cf3 BK413
         go_wp2_with (first | ((with_reducible refine gc 5 rfl ?_); refine gl (some 47) Try.func5 #[.slice Ao19 t396.length co19, .agg #[.bool t399, .slice Ao14 t400.length co14, .slice Ao15 t403.length co15], .agg #[.bool t399, .slice Ao14 t400.length co14, .slice Ao15 t403.length co15]] rfl ?_; (with_reducible refine (impl_ShapeIn.calls kj7 _ _ t396 t399 _ _ t400 _ _ t403 t399 _ _ t400 _ _ t403 false _ ?side1 ?side2 ?side3 ?side4 ?side5 ?side6 ?side7 ?side8 ?side9 ?side10 A38.out).mono ?_); (case side1 => exact (Kd.N_reads' HO_5.out).2.2); (case side2 => exact (Kd.N_reads' HO_5.out).2.1); (case side3 => exact (Kd.R_reads' HO_414001.out).2.2); (case side4 => exact (Kd.R_reads' HO_414001.out).2.1); (case side5 => exact (Kd.Q_reads' HO_414002.out).2.2); (case side6 => exact (Kd.Q_reads' HO_414002.out).2.1); (case side7 => exact (Kd.R_reads' HO_414001.out).2.2); (case side8 => exact (Kd.R_reads' HO_414001.out).2.1); (case side9 => exact (Kd.Q_reads' HO_414002.out).2.2); (case side10 => exact (Kd.Q_reads' HO_414002.out).2.1); rintro e w71 ⟨rfl, hb⟩; refine ⟨_, rfl, ?_⟩; replace HO_5 := nb HO_5 hb; replace HO_414001 := rb HO_414001 hb; replace HO_414002 := qb HO_414002 hb; replace HO_415001 := rb HO_415001 hb; replace HO_415002 := qb HO_415002 hb; replace BK413 := kb BK413 hb; replace BK414 := kb BK414 hb; replace HB := hs HB hb))
         go_meet
         case rel => exact ⟨_, (true), (by first | rfl | (simp; done) | (simp [*]; done)), H', ⟨by have := HJ2.out; have := HJ7.out; first | omega | exact Nat.le_refl _⟩, ⟨HO_5.out⟩, ⟨HO_414001.out⟩, ⟨HO_414002.out⟩, ⟨HO_415001.out⟩, ⟨HO_415002.out⟩, kk BK413, kk BK414, ⟨bl⟩⟩
       case rest =>
        clear HC37
        obtain ⟨kq, x67_36, rfl, HA, HJ36, HO_5, HO_414001, HO_414002, HO_415001, HO_415002, BK413, BK414, HB⟩ := hcut
        cases kq with
        | zero => exact absurd HA.out (by simp [laws_FnShapeOrder.j2])
        | succ kj36 =>
         have H := HA.out
         clear HA
         simp only [laws_FnShapeOrder.j2] at H
         by_cases c72 : x67_36 = true
         ·subst c72
          replace H := it H
          obtain rfl := Option.some.inj H
          exact absurd hr_ (by decide)
         ·replace c72 := Bool.eq_false_iff.mpr c72
          subst c72
          replace H := ie H
          obtain ⟨y422, hy422⟩ : ∃ y_ : List Int, y_ = (([] : List Int)) := ⟨_, rfl⟩
          replace H : (if y422.length + t407.length < 17592186044416 then ((some (y422 ++ t407 : List Int)).bind fun y425 => ((some (([] : List Int) : List Int)).bind fun y428 => (if y428.length + t410.length < 17592186044416 then ((some (y428 ++ t410 : List Int)).bind fun y431 => (if (y425.length : Int) > 0 then (if (y425.length : Int) = 0 then (none) else (if 0 ≤ ((l1.length : Int) % (y425.length : Int)) then (if ((l1.length : Int) % (y425.length : Int)) < (y425.length : Int) then ((some (y425.set (((l1.length : Int) % (y425.length : Int)) : Int).toNat 0 : List Int)).bind fun y435 => ((impl_ShapeIn.f kj36 t396 t406 t407 t410 true y435 y431).bind fun t436 => (if t436 = true then ((impl_ShapeIn.f kj36 t396 t399 t400 t403 true y435 y431).bind fun t437 => (some t437)) else (some false)))) else (none)) else (none))) else ((impl_ShapeIn.f kj36 t396 t406 t407 t410 true y425 y431).bind fun t438 => (if t438 = true then ((impl_ShapeIn.f kj36 t396 t399 t400 t403 true y425 y431).bind fun t439 => (some t439)) else (some false))))) else (none)))) else (none)) = some r := by first | (rw [hy422]; with_reducible exact H) | (have H2_ := (Option.bind_some _ _).symm.trans H; rw [hy422]; with_reducible exact H2_) | (have H2_ := (Option.bind_some _ _).symm.trans H; with_reducible exact H2_) | with_reducible exact H | (rw [hy422]; exact H) | exact H
          have Ny422 := Aside0.mk hy422
          clear hy422
          by_cases c73 : y422.length + t407.length < 17592186044416
          ·rw [if_pos c73] at H
           have LMc73 := Aside0.mk c73
           clear c73
           obtain ⟨y425, hy425⟩ : ∃ y_ : List Int, y_ = (y422 ++ t407) := ⟨_, rfl⟩
           replace H : ((some (([] : List Int) : List Int)).bind fun y428 => (if y428.length + t410.length < 17592186044416 then ((some (y428 ++ t410 : List Int)).bind fun y431 => (if (y425.length : Int) > 0 then (if (y425.length : Int) = 0 then (none) else (if 0 ≤ ((l1.length : Int) % (y425.length : Int)) then (if ((l1.length : Int) % (y425.length : Int)) < (y425.length : Int) then ((some (y425.set (((l1.length : Int) % (y425.length : Int)) : Int).toNat 0 : List Int)).bind fun y435 => ((impl_ShapeIn.f kj36 t396 t406 t407 t410 true y435 y431).bind fun t436 => (if t436 = true then ((impl_ShapeIn.f kj36 t396 t399 t400 t403 true y435 y431).bind fun t437 => (some t437)) else (some false)))) else (none)) else (none))) else ((impl_ShapeIn.f kj36 t396 t406 t407 t410 true y425 y431).bind fun t438 => (if t438 = true then ((impl_ShapeIn.f kj36 t396 t399 t400 t403 true y425 y431).bind fun t439 => (some t439)) else (some false))))) else (none))) = some r := by first | (rw [hy425]; with_reducible exact H) | (have H2_ := (Option.bind_some _ _).symm.trans H; rw [hy425]; with_reducible exact H2_) | (have H2_ := (Option.bind_some _ _).symm.trans H; with_reducible exact H2_) | with_reducible exact H | (rw [hy425]; exact H) | exact H
           have Ny425 := Aside0.mk hy425
           clear hy425
           obtain ⟨y428, hy428⟩ : ∃ y_ : List Int, y_ = (([] : List Int)) := ⟨_, rfl⟩
           replace H : (if y428.length + t410.length < 17592186044416 then ((some (y428 ++ t410 : List Int)).bind fun y431 => (if (y425.length : Int) > 0 then (if (y425.length : Int) = 0 then (none) else (if 0 ≤ ((l1.length : Int) % (y425.length : Int)) then (if ((l1.length : Int) % (y425.length : Int)) < (y425.length : Int) then ((some (y425.set (((l1.length : Int) % (y425.length : Int)) : Int).toNat 0 : List Int)).bind fun y435 => ((impl_ShapeIn.f kj36 t396 t406 t407 t410 true y435 y431).bind fun t436 => (if t436 = true then ((impl_ShapeIn.f kj36 t396 t399 t400 t403 true y435 y431).bind fun t437 => (some t437)) else (some false)))) else (none)) else (none))) else ((impl_ShapeIn.f kj36 t396 t406 t407 t410 true y425 y431).bind fun t438 => (if t438 = true then ((impl_ShapeIn.f kj36 t396 t399 t400 t403 true y425 y431).bind fun t439 => (some t439)) else (some false))))) else (none)) = some r := by first | (rw [hy428]; with_reducible exact H) | (have H2_ := (Option.bind_some _ _).symm.trans H; rw [hy428]; with_reducible exact H2_) | (have H2_ := (Option.bind_some _ _).symm.trans H; with_reducible exact H2_) | with_reducible exact H | (rw [hy428]; exact H) | exact H
           have Ny428 := Aside0.mk hy428
           clear hy428
           by_cases c74 : y428.length + t410.length < 17592186044416
           ·rw [if_pos c74] at H
            have LMc74 := Aside0.mk c74
            clear c74
            obtain ⟨y431, hy431⟩ : ∃ y_ : List Int, y_ = (y428 ++ t410) := ⟨_, rfl⟩
            replace H : (if (y425.length : Int) > 0 then (if (y425.length : Int) = 0 then (none) else (if 0 ≤ ((l1.length : Int) % (y425.length : Int)) then (if ((l1.length : Int) % (y425.length : Int)) < (y425.length : Int) then ((some (y425.set (((l1.length : Int) % (y425.length : Int)) : Int).toNat 0 : List Int)).bind fun y435 => ((impl_ShapeIn.f kj36 t396 t406 t407 t410 true y435 y431).bind fun t436 => (if t436 = true then ((impl_ShapeIn.f kj36 t396 t399 t400 t403 true y435 y431).bind fun t437 => (some t437)) else (some false)))) else (none)) else (none))) else ((impl_ShapeIn.f kj36 t396 t406 t407 t410 true y425 y431).bind fun t438 => (if t438 = true then ((impl_ShapeIn.f kj36 t396 t399 t400 t403 true y425 y431).bind fun t439 => (some t439)) else (some false)))) = some r := by first | (rw [hy431]; with_reducible exact H) | (have H2_ := (Option.bind_some _ _).symm.trans H; rw [hy431]; with_reducible exact H2_) | (have H2_ := (Option.bind_some _ _).symm.trans H; with_reducible exact H2_) | with_reducible exact H | (rw [hy431]; exact H) | exact H
            have Ny431 := Aside0.mk hy431
            clear hy431
            have HA9 := Aside0.mk H
            clear H
            try go_wp2
            replace HO_5 := dN HO_5
            replace HO_414001 := dR HO_414001
            replace HO_414002 := dQ HO_414002
            replace HO_415001 := dR HO_415001
            replace HO_415002 := dQ HO_415002
            replace BK413 := dK BK413
            replace BK414 := dK BK414
            replace HB := Aside0.mk (below_drew1 HB.out)
            refine start_ (n := 11) (S := fun w' => w'.cell? ⟨gb414, 0, none⟩ = some (.bool t406) ∧ w'.cell? ⟨gb414, 1, none⟩ = some (.slice Ao17 t407.length co17) ∧ w'.cell? ⟨gb414, 2, none⟩ = some (.slice Ao18 t410.length co18)) (ds := []) #[false, false, false, false, false, false, false, false, false, false, false] (by kernel_rfl) rfl rfl ⟨(blk_cell BK414.out 0).trans rfl, (blk_cell BK414.out 1).trans rfl, (blk_cell BK414.out 2).trans rfl⟩ (fun hHeld => ?_); refine with_tabW laws_FnShapeOrder.tab9 laws_FnShapeOrder.bits9 (fun HT_ HW_ => ?_)
            generalize wc.drew = w84 at HO_5 HO_414001 HO_414002 HO_415001 HO_415002 BK413 BK414 HB hHeld ⊢
            refine pu 1 69 #[false, true, false, false, false, false, false, false, false, false, false] HT_ rfl rfl ?_
            refine pu 5 73 #[false, true, false, false, false, true, false, false, false, false, false] HT_ rfl rfl ?_
            refine ta 2 70 #[false, true, true, false, false, true, false, false, false, false, false] HT_ HW_ hHeld rfl rfl ?_
            refine ta 6 74 #[false, true, true, false, false, true, true, false, false, false, false] HT_ HW_ hHeld rfl rfl ?_
            refine join_ (σ := Value × Value × Value × Value × Nat) 1 #[true, true, true, true, true, true, true, true, true, true, false] (fun s_ => [(68, s_.1), (71, s_.2.1), (72, s_.2.2.1), (75, s_.2.2.2.1), (9, .pointer (some ⟨s_.2.2.2.2, 0, none⟩)), (76, .agg #[.bool true, s_.2.1, s_.2.2.2.1])]) (fun s_ w' => (w'.cell? ⟨gb414, 0, none⟩ = some (.bool t406) ∧ w'.cell? ⟨gb414, 1, none⟩ = some (.slice Ao17 t407.length co17) ∧ w'.cell? ⟨gb414, 2, none⟩ = some (.slice Ao18 t410.length co18)) ∧ (Kd.R (Kd.int .i64) 3 w' w.heap.size (fun k_ => some k_ ≠ (s_.2.2.2.1 : Value).ownBlock ∧ so k_ Ao14 t400 co14 ∧ so k_ Ao15 t403 co15 ∧ so k_ Ao17 t407 co17 ∧ so k_ Ao18 t410 co18) s_.2.1 y425) ∧ (Kd.R (Kd.int .i64) 3 w' w.heap.size (fun k_ => some k_ ≠ (s_.2.1 : Value).ownBlock ∧ so k_ Ao14 t400 co14 ∧ so k_ Ao15 t403 co15 ∧ so k_ Ao17 t407 co17 ∧ so k_ Ao18 t410 co18) s_.2.2.2.1 y431) ∧ (Kd.R (Kd.int .i64) 3 w' w.heap.size (fun k_ => some k_ ≠ (s_.2.1 : Value).ownBlock ∧ some k_ ≠ (s_.2.2.2.1 : Value).ownBlock ∧ so k_ Ao15 t403 co15 ∧ so k_ Ao17 t407 co17 ∧ so k_ Ao18 t410 co18) (.slice Ao14 t400.length co14) t400) ∧ (Kd.Q (Kd.int .i64) 3 w' w.heap.size (fun k_ => some k_ ≠ (s_.2.1 : Value).ownBlock ∧ some k_ ≠ (s_.2.2.2.1 : Value).ownBlock ∧ so k_ Ao14 t400 co14 ∧ so k_ Ao17 t407 co17 ∧ so k_ Ao18 t410 co18) (.slice Ao15 t403.length co15) t403) ∧ (Kd.R (Kd.int .i64) 3 w' w.heap.size (fun k_ => some k_ ≠ (s_.2.1 : Value).ownBlock ∧ some k_ ≠ (s_.2.2.2.1 : Value).ownBlock ∧ so k_ Ao14 t400 co14 ∧ so k_ Ao15 t403 co15 ∧ so k_ Ao18 t410 co18) (.slice Ao17 t407.length co17) t407) ∧ (Kd.Q (Kd.int .i64) 3 w' w.heap.size (fun k_ => some k_ ≠ (s_.2.1 : Value).ownBlock ∧ some k_ ≠ (s_.2.2.2.1 : Value).ownBlock ∧ so k_ Ao14 t400 co14 ∧ so k_ Ao15 t403 co15 ∧ so k_ Ao17 t407 co17) (.slice Ao18 t410.length co18) t410) ∧ (Kd.N k48 48 w' w.heap.size (fun k_ => some k_ ≠ (s_.2.1 : Value).ownBlock ∧ some k_ ≠ (s_.2.2.2.1 : Value).ownBlock ∧ so k_ Ao14 t400 co14 ∧ so k_ Ao15 t403 co15 ∧ so k_ Ao17 t407 co17 ∧ so k_ Ao18 t410 co18 ∧ k_ ≠ gb413 ∧ k_ ≠ gb414 ∧ k_ ≠ s_.2.2.2.2) (.slice Ao19 t396.length co19) t396) ∧ (w'.heap[gb413]? = some (.cells #[.bool t399, .slice Ao14 t400.length co14, .slice Ao15 t403.length co15] 26 (0, 0))) ∧ (w'.heap[gb414]? = some (.cells #[.bool t406, .slice Ao17 t407.length co17, .slice Ao18 t410.length co18] 26 (0, 0))) ∧ (w'.heap[s_.2.2.2.2]? = some (.cells #[.bool false, .slice none 0 0, .slice none 0 0] 26 (0, 0))) ∧ (w.heap.size ≤ s_.2.2.2.2) ∧ (w.heap.size ≤ s_.2.2.2.2) ∧ (gb413 ≠ s_.2.2.2.2) ∧ (s_.2.2.2.2 ≠ gb413) ∧ (gb414 ≠ s_.2.2.2.2) ∧ (s_.2.2.2.2 ≠ gb414) ∧ (Below w.heap.size w w')) ?_ ?_
            rotate_left
            ·intro hJ0_3_4_7_9
             refine join_ (σ := Value × Value × Value × Value) 2 #[true, true, true, true, true, true, true, true, true, false, false] (fun s_ => [(68, s_.1), (71, s_.2.1), (72, s_.2.2.1), (75, s_.2.2.2), (76, .agg #[.bool true, s_.2.1, s_.2.2.2])]) (fun s_ w' => (w'.cell? ⟨gb414, 0, none⟩ = some (.bool t406) ∧ w'.cell? ⟨gb414, 1, none⟩ = some (.slice Ao17 t407.length co17) ∧ w'.cell? ⟨gb414, 2, none⟩ = some (.slice Ao18 t410.length co18)) ∧ (Kd.R (Kd.int .i64) 3 w' w.heap.size (fun k_ => some k_ ≠ (s_.2.2.2 : Value).ownBlock ∧ so k_ Ao14 t400 co14 ∧ so k_ Ao15 t403 co15 ∧ so k_ Ao17 t407 co17 ∧ so k_ Ao18 t410 co18) s_.2.1 y425) ∧ (Kd.R (Kd.int .i64) 3 w' w.heap.size (fun k_ => some k_ ≠ (s_.2.1 : Value).ownBlock ∧ so k_ Ao14 t400 co14 ∧ so k_ Ao15 t403 co15 ∧ so k_ Ao17 t407 co17 ∧ so k_ Ao18 t410 co18) s_.2.2.2 y431) ∧ (Kd.R (Kd.int .i64) 3 w' w.heap.size (fun k_ => some k_ ≠ (s_.2.1 : Value).ownBlock ∧ some k_ ≠ (s_.2.2.2 : Value).ownBlock ∧ so k_ Ao15 t403 co15 ∧ so k_ Ao17 t407 co17 ∧ so k_ Ao18 t410 co18) (.slice Ao14 t400.length co14) t400) ∧ (Kd.Q (Kd.int .i64) 3 w' w.heap.size (fun k_ => some k_ ≠ (s_.2.1 : Value).ownBlock ∧ some k_ ≠ (s_.2.2.2 : Value).ownBlock ∧ so k_ Ao14 t400 co14 ∧ so k_ Ao17 t407 co17 ∧ so k_ Ao18 t410 co18) (.slice Ao15 t403.length co15) t403) ∧ (Kd.R (Kd.int .i64) 3 w' w.heap.size (fun k_ => some k_ ≠ (s_.2.1 : Value).ownBlock ∧ some k_ ≠ (s_.2.2.2 : Value).ownBlock ∧ so k_ Ao14 t400 co14 ∧ so k_ Ao15 t403 co15 ∧ so k_ Ao18 t410 co18) (.slice Ao17 t407.length co17) t407) ∧ (Kd.Q (Kd.int .i64) 3 w' w.heap.size (fun k_ => some k_ ≠ (s_.2.1 : Value).ownBlock ∧ some k_ ≠ (s_.2.2.2 : Value).ownBlock ∧ so k_ Ao14 t400 co14 ∧ so k_ Ao15 t403 co15 ∧ so k_ Ao17 t407 co17) (.slice Ao18 t410.length co18) t410) ∧ (Kd.N k48 48 w' w.heap.size (fun k_ => some k_ ≠ (s_.2.1 : Value).ownBlock ∧ some k_ ≠ (s_.2.2.2 : Value).ownBlock ∧ so k_ Ao14 t400 co14 ∧ so k_ Ao15 t403 co15 ∧ so k_ Ao17 t407 co17 ∧ so k_ Ao18 t410 co18 ∧ k_ ≠ gb413 ∧ k_ ≠ gb414) (.slice Ao19 t396.length co19) t396) ∧ (w'.heap[gb413]? = some (.cells #[.bool t399, .slice Ao14 t400.length co14, .slice Ao15 t403.length co15] 26 (0, 0))) ∧ (w'.heap[gb414]? = some (.cells #[.bool t406, .slice Ao17 t407.length co17, .slice Ao18 t410.length co18] 26 (0, 0))) ∧ (Below w.heap.size w w')) ?_ ?_
             rotate_left
             ·intro hJ0_3_4_7
              refine join_ (σ := Value × Value × Value × Nat) 3 #[true, true, true, true, true, true, true, false, false, true, false] (fun s_ => [(68, s_.1), (71, s_.2.1), (72, s_.2.2.1), (9, .pointer (some ⟨s_.2.2.2, 0, none⟩))]) (fun s_ w' => (w'.cell? ⟨gb414, 0, none⟩ = some (.bool t406) ∧ w'.cell? ⟨gb414, 1, none⟩ = some (.slice Ao17 t407.length co17) ∧ w'.cell? ⟨gb414, 2, none⟩ = some (.slice Ao18 t410.length co18)) ∧ (Kd.R (Kd.int .i64) 3 w' w.heap.size (fun k_ => some k_ ≠ (s_.2.2.1 : Value).ownBlock ∧ so k_ Ao14 t400 co14 ∧ so k_ Ao15 t403 co15 ∧ so k_ Ao17 t407 co17 ∧ so k_ Ao18 t410 co18) s_.2.1 y425) ∧ (Kd.R (Kd.int .i64) 3 w' w.heap.size (fun k_ => some k_ ≠ (s_.2.1 : Value).ownBlock ∧ so k_ Ao14 t400 co14 ∧ so k_ Ao15 t403 co15 ∧ so k_ Ao17 t407 co17 ∧ so k_ Ao18 t410 co18) s_.2.2.1 y428) ∧ (Kd.R (Kd.int .i64) 3 w' w.heap.size (fun k_ => some k_ ≠ (s_.2.1 : Value).ownBlock ∧ some k_ ≠ (s_.2.2.1 : Value).ownBlock ∧ so k_ Ao15 t403 co15 ∧ so k_ Ao17 t407 co17 ∧ so k_ Ao18 t410 co18) (.slice Ao14 t400.length co14) t400) ∧ (Kd.Q (Kd.int .i64) 3 w' w.heap.size (fun k_ => some k_ ≠ (s_.2.1 : Value).ownBlock ∧ some k_ ≠ (s_.2.2.1 : Value).ownBlock ∧ so k_ Ao14 t400 co14 ∧ so k_ Ao17 t407 co17 ∧ so k_ Ao18 t410 co18) (.slice Ao15 t403.length co15) t403) ∧ (Kd.R (Kd.int .i64) 3 w' w.heap.size (fun k_ => some k_ ≠ (s_.2.1 : Value).ownBlock ∧ some k_ ≠ (s_.2.2.1 : Value).ownBlock ∧ so k_ Ao14 t400 co14 ∧ so k_ Ao15 t403 co15 ∧ so k_ Ao18 t410 co18) (.slice Ao17 t407.length co17) t407) ∧ (Kd.Q (Kd.int .i64) 3 w' w.heap.size (fun k_ => some k_ ≠ (s_.2.1 : Value).ownBlock ∧ some k_ ≠ (s_.2.2.1 : Value).ownBlock ∧ so k_ Ao14 t400 co14 ∧ so k_ Ao15 t403 co15 ∧ so k_ Ao17 t407 co17) (.slice Ao18 t410.length co18) t410) ∧ (Kd.N k48 48 w' w.heap.size (fun k_ => some k_ ≠ (s_.2.1 : Value).ownBlock ∧ some k_ ≠ (s_.2.2.1 : Value).ownBlock ∧ so k_ Ao14 t400 co14 ∧ so k_ Ao15 t403 co15 ∧ so k_ Ao17 t407 co17 ∧ so k_ Ao18 t410 co18 ∧ k_ ≠ gb413 ∧ k_ ≠ gb414 ∧ k_ ≠ s_.2.2.2) (.slice Ao19 t396.length co19) t396) ∧ (w'.heap[gb413]? = some (.cells #[.bool t399, .slice Ao14 t400.length co14, .slice Ao15 t403.length co15] 26 (0, 0))) ∧ (w'.heap[gb414]? = some (.cells #[.bool t406, .slice Ao17 t407.length co17, .slice Ao18 t410.length co18] 26 (0, 0))) ∧ (w'.heap[s_.2.2.2]? = some (.cells #[.bool false, .slice none 0 0, .slice none 0 0] 26 (0, 0))) ∧ (w.heap.size ≤ s_.2.2.2) ∧ (w.heap.size ≤ s_.2.2.2) ∧ (gb413 ≠ s_.2.2.2) ∧ (s_.2.2.2 ≠ gb413) ∧ (gb414 ≠ s_.2.2.2) ∧ (s_.2.2.2 ≠ gb414) ∧ (Below w.heap.size w w')) ?_ ?_
              rotate_left
              ·intro hJ0_3_4_9
               refine join_ (σ := Value × Value × Value) 4 #[true, true, true, true, true, true, true, false, false, false, false] (fun s_ => [(68, s_.1), (71, s_.2.1), (72, s_.2.2)]) (fun s_ w' => (w'.cell? ⟨gb414, 0, none⟩ = some (.bool t406) ∧ w'.cell? ⟨gb414, 1, none⟩ = some (.slice Ao17 t407.length co17) ∧ w'.cell? ⟨gb414, 2, none⟩ = some (.slice Ao18 t410.length co18)) ∧ (Kd.R (Kd.int .i64) 3 w' w.heap.size (fun k_ => some k_ ≠ (s_.2.2 : Value).ownBlock ∧ so k_ Ao14 t400 co14 ∧ so k_ Ao15 t403 co15 ∧ so k_ Ao17 t407 co17 ∧ so k_ Ao18 t410 co18) s_.2.1 y425) ∧ (Kd.R (Kd.int .i64) 3 w' w.heap.size (fun k_ => some k_ ≠ (s_.2.1 : Value).ownBlock ∧ so k_ Ao14 t400 co14 ∧ so k_ Ao15 t403 co15 ∧ so k_ Ao17 t407 co17 ∧ so k_ Ao18 t410 co18) s_.2.2 y428) ∧ (Kd.R (Kd.int .i64) 3 w' w.heap.size (fun k_ => some k_ ≠ (s_.2.1 : Value).ownBlock ∧ some k_ ≠ (s_.2.2 : Value).ownBlock ∧ so k_ Ao15 t403 co15 ∧ so k_ Ao17 t407 co17 ∧ so k_ Ao18 t410 co18) (.slice Ao14 t400.length co14) t400) ∧ (Kd.Q (Kd.int .i64) 3 w' w.heap.size (fun k_ => some k_ ≠ (s_.2.1 : Value).ownBlock ∧ some k_ ≠ (s_.2.2 : Value).ownBlock ∧ so k_ Ao14 t400 co14 ∧ so k_ Ao17 t407 co17 ∧ so k_ Ao18 t410 co18) (.slice Ao15 t403.length co15) t403) ∧ (Kd.R (Kd.int .i64) 3 w' w.heap.size (fun k_ => some k_ ≠ (s_.2.1 : Value).ownBlock ∧ some k_ ≠ (s_.2.2 : Value).ownBlock ∧ so k_ Ao14 t400 co14 ∧ so k_ Ao15 t403 co15 ∧ so k_ Ao18 t410 co18) (.slice Ao17 t407.length co17) t407) ∧ (Kd.Q (Kd.int .i64) 3 w' w.heap.size (fun k_ => some k_ ≠ (s_.2.1 : Value).ownBlock ∧ some k_ ≠ (s_.2.2 : Value).ownBlock ∧ so k_ Ao14 t400 co14 ∧ so k_ Ao15 t403 co15 ∧ so k_ Ao17 t407 co17) (.slice Ao18 t410.length co18) t410) ∧ (Kd.N k48 48 w' w.heap.size (fun k_ => some k_ ≠ (s_.2.1 : Value).ownBlock ∧ some k_ ≠ (s_.2.2 : Value).ownBlock ∧ so k_ Ao14 t400 co14 ∧ so k_ Ao15 t403 co15 ∧ so k_ Ao17 t407 co17 ∧ so k_ Ao18 t410 co18 ∧ k_ ≠ gb413 ∧ k_ ≠ gb414) (.slice Ao19 t396.length co19) t396) ∧ (w'.heap[gb413]? = some (.cells #[.bool t399, .slice Ao14 t400.length co14, .slice Ao15 t403.length co15] 26 (0, 0))) ∧ (w'.heap[gb414]? = some (.cells #[.bool t406, .slice Ao17 t407.length co17, .slice Ao18 t410.length co18] 26 (0, 0))) ∧ (Below w.heap.size w w')) ?_ ?_
               rotate_left
               ·intro hJ0_3_4
                refine join_ (σ := Value × Value × Nat) 4 #[true, true, true, true, false, true, true, false, false, true, false] (fun s_ => [(68, s_.1), (71, s_.2.1), (9, .pointer (some ⟨s_.2.2, 0, none⟩))]) (fun s_ w' => (w'.cell? ⟨gb414, 0, none⟩ = some (.bool t406) ∧ w'.cell? ⟨gb414, 1, none⟩ = some (.slice Ao17 t407.length co17) ∧ w'.cell? ⟨gb414, 2, none⟩ = some (.slice Ao18 t410.length co18)) ∧ (Kd.R (Kd.int .i64) 3 w' w.heap.size (fun k_ => so k_ Ao14 t400 co14 ∧ so k_ Ao15 t403 co15 ∧ so k_ Ao17 t407 co17 ∧ so k_ Ao18 t410 co18) s_.2.1 y425) ∧ (Kd.R (Kd.int .i64) 3 w' w.heap.size (fun k_ => some k_ ≠ (s_.2.1 : Value).ownBlock ∧ so k_ Ao15 t403 co15 ∧ so k_ Ao17 t407 co17 ∧ so k_ Ao18 t410 co18) (.slice Ao14 t400.length co14) t400) ∧ (Kd.Q (Kd.int .i64) 3 w' w.heap.size (fun k_ => some k_ ≠ (s_.2.1 : Value).ownBlock ∧ so k_ Ao14 t400 co14 ∧ so k_ Ao17 t407 co17 ∧ so k_ Ao18 t410 co18) (.slice Ao15 t403.length co15) t403) ∧ (Kd.R (Kd.int .i64) 3 w' w.heap.size (fun k_ => some k_ ≠ (s_.2.1 : Value).ownBlock ∧ so k_ Ao14 t400 co14 ∧ so k_ Ao15 t403 co15 ∧ so k_ Ao18 t410 co18) (.slice Ao17 t407.length co17) t407) ∧ (Kd.Q (Kd.int .i64) 3 w' w.heap.size (fun k_ => some k_ ≠ (s_.2.1 : Value).ownBlock ∧ so k_ Ao14 t400 co14 ∧ so k_ Ao15 t403 co15 ∧ so k_ Ao17 t407 co17) (.slice Ao18 t410.length co18) t410) ∧ (Kd.N k48 48 w' w.heap.size (fun k_ => some k_ ≠ (s_.2.1 : Value).ownBlock ∧ so k_ Ao14 t400 co14 ∧ so k_ Ao15 t403 co15 ∧ so k_ Ao17 t407 co17 ∧ so k_ Ao18 t410 co18 ∧ k_ ≠ gb413 ∧ k_ ≠ gb414 ∧ k_ ≠ s_.2.2) (.slice Ao19 t396.length co19) t396) ∧ (w'.heap[gb413]? = some (.cells #[.bool t399, .slice Ao14 t400.length co14, .slice Ao15 t403.length co15] 26 (0, 0))) ∧ (w'.heap[gb414]? = some (.cells #[.bool t406, .slice Ao17 t407.length co17, .slice Ao18 t410.length co18] 26 (0, 0))) ∧ (w'.heap[s_.2.2]? = some (.cells #[.bool false, .slice none 0 0, .slice none 0 0] 26 (0, 0))) ∧ (w.heap.size ≤ s_.2.2) ∧ (w.heap.size ≤ s_.2.2) ∧ (gb413 ≠ s_.2.2) ∧ (s_.2.2 ≠ gb413) ∧ (gb414 ≠ s_.2.2) ∧ (s_.2.2 ≠ gb414) ∧ (Below w.heap.size w w')) ?_ ?_
                rotate_left
                ·intro hJ0_3_9
                 refine join_ (σ := Value × Value × Nat) 4 #[true, true, true, false, true, true, true, false, false, true, false] (fun s_ => [(68, s_.1), (72, s_.2.1), (9, .pointer (some ⟨s_.2.2, 0, none⟩))]) (fun s_ w' => (w'.cell? ⟨gb414, 0, none⟩ = some (.bool t406) ∧ w'.cell? ⟨gb414, 1, none⟩ = some (.slice Ao17 t407.length co17) ∧ w'.cell? ⟨gb414, 2, none⟩ = some (.slice Ao18 t410.length co18)) ∧ (Kd.R (Kd.int .i64) 3 w' w.heap.size (fun k_ => some k_ ≠ (s_.2.1 : Value).ownBlock ∧ so k_ Ao14 t400 co14 ∧ so k_ Ao15 t403 co15 ∧ so k_ Ao17 t407 co17 ∧ so k_ Ao18 t410 co18) s_.1 y422) ∧ (Kd.R (Kd.int .i64) 3 w' w.heap.size (fun k_ => some k_ ≠ (s_.1 : Value).ownBlock ∧ so k_ Ao14 t400 co14 ∧ so k_ Ao15 t403 co15 ∧ so k_ Ao17 t407 co17 ∧ so k_ Ao18 t410 co18) s_.2.1 y428) ∧ (Kd.R (Kd.int .i64) 3 w' w.heap.size (fun k_ => some k_ ≠ (s_.1 : Value).ownBlock ∧ some k_ ≠ (s_.2.1 : Value).ownBlock ∧ so k_ Ao15 t403 co15 ∧ so k_ Ao17 t407 co17 ∧ so k_ Ao18 t410 co18) (.slice Ao14 t400.length co14) t400) ∧ (Kd.Q (Kd.int .i64) 3 w' w.heap.size (fun k_ => some k_ ≠ (s_.1 : Value).ownBlock ∧ some k_ ≠ (s_.2.1 : Value).ownBlock ∧ so k_ Ao14 t400 co14 ∧ so k_ Ao17 t407 co17 ∧ so k_ Ao18 t410 co18) (.slice Ao15 t403.length co15) t403) ∧ (Kd.R (Kd.int .i64) 3 w' w.heap.size (fun k_ => some k_ ≠ (s_.1 : Value).ownBlock ∧ some k_ ≠ (s_.2.1 : Value).ownBlock ∧ so k_ Ao14 t400 co14 ∧ so k_ Ao15 t403 co15 ∧ so k_ Ao18 t410 co18) (.slice Ao17 t407.length co17) t407) ∧ (Kd.Q (Kd.int .i64) 3 w' w.heap.size (fun k_ => some k_ ≠ (s_.1 : Value).ownBlock ∧ some k_ ≠ (s_.2.1 : Value).ownBlock ∧ so k_ Ao14 t400 co14 ∧ so k_ Ao15 t403 co15 ∧ so k_ Ao17 t407 co17) (.slice Ao18 t410.length co18) t410) ∧ (Kd.N k48 48 w' w.heap.size (fun k_ => some k_ ≠ (s_.1 : Value).ownBlock ∧ some k_ ≠ (s_.2.1 : Value).ownBlock ∧ so k_ Ao14 t400 co14 ∧ so k_ Ao15 t403 co15 ∧ so k_ Ao17 t407 co17 ∧ so k_ Ao18 t410 co18 ∧ k_ ≠ gb413 ∧ k_ ≠ gb414 ∧ k_ ≠ s_.2.2) (.slice Ao19 t396.length co19) t396) ∧ (w'.heap[gb413]? = some (.cells #[.bool t399, .slice Ao14 t400.length co14, .slice Ao15 t403.length co15] 26 (0, 0))) ∧ (w'.heap[gb414]? = some (.cells #[.bool t406, .slice Ao17 t407.length co17, .slice Ao18 t410.length co18] 26 (0, 0))) ∧ (w'.heap[s_.2.2]? = some (.cells #[.bool false, .slice none 0 0, .slice none 0 0] 26 (0, 0))) ∧ (w.heap.size ≤ s_.2.2) ∧ (w.heap.size ≤ s_.2.2) ∧ (gb413 ≠ s_.2.2) ∧ (s_.2.2 ≠ gb413) ∧ (gb414 ≠ s_.2.2) ∧ (s_.2.2 ≠ gb414) ∧ (Below w.heap.size w w')) ?_ ?_
                 rotate_left
                 ·intro hJ0_4_9
                  refine join_ (σ := Value × Value) 5 #[true, true, true, true, false, true, true, false, false, false, false] (fun s_ => [(68, s_.1), (71, s_.2)]) (fun s_ w' => (w'.cell? ⟨gb414, 0, none⟩ = some (.bool t406) ∧ w'.cell? ⟨gb414, 1, none⟩ = some (.slice Ao17 t407.length co17) ∧ w'.cell? ⟨gb414, 2, none⟩ = some (.slice Ao18 t410.length co18)) ∧ (Kd.R (Kd.int .i64) 3 w' w.heap.size (fun k_ => so k_ Ao14 t400 co14 ∧ so k_ Ao15 t403 co15 ∧ so k_ Ao17 t407 co17 ∧ so k_ Ao18 t410 co18) s_.2 y425) ∧ (Kd.R (Kd.int .i64) 3 w' w.heap.size (fun k_ => some k_ ≠ (s_.2 : Value).ownBlock ∧ so k_ Ao15 t403 co15 ∧ so k_ Ao17 t407 co17 ∧ so k_ Ao18 t410 co18) (.slice Ao14 t400.length co14) t400) ∧ (Kd.Q (Kd.int .i64) 3 w' w.heap.size (fun k_ => some k_ ≠ (s_.2 : Value).ownBlock ∧ so k_ Ao14 t400 co14 ∧ so k_ Ao17 t407 co17 ∧ so k_ Ao18 t410 co18) (.slice Ao15 t403.length co15) t403) ∧ (Kd.R (Kd.int .i64) 3 w' w.heap.size (fun k_ => some k_ ≠ (s_.2 : Value).ownBlock ∧ so k_ Ao14 t400 co14 ∧ so k_ Ao15 t403 co15 ∧ so k_ Ao18 t410 co18) (.slice Ao17 t407.length co17) t407) ∧ (Kd.Q (Kd.int .i64) 3 w' w.heap.size (fun k_ => some k_ ≠ (s_.2 : Value).ownBlock ∧ so k_ Ao14 t400 co14 ∧ so k_ Ao15 t403 co15 ∧ so k_ Ao17 t407 co17) (.slice Ao18 t410.length co18) t410) ∧ (Kd.N k48 48 w' w.heap.size (fun k_ => some k_ ≠ (s_.2 : Value).ownBlock ∧ so k_ Ao14 t400 co14 ∧ so k_ Ao15 t403 co15 ∧ so k_ Ao17 t407 co17 ∧ so k_ Ao18 t410 co18 ∧ k_ ≠ gb413 ∧ k_ ≠ gb414) (.slice Ao19 t396.length co19) t396) ∧ (w'.heap[gb413]? = some (.cells #[.bool t399, .slice Ao14 t400.length co14, .slice Ao15 t403.length co15] 26 (0, 0))) ∧ (w'.heap[gb414]? = some (.cells #[.bool t406, .slice Ao17 t407.length co17, .slice Ao18 t410.length co18] 26 (0, 0))) ∧ (Below w.heap.size w w')) ?_ ?_
                  rotate_left
                  ·intro hJ0_3
                   refine join_ (σ := Value × Value) 5 #[true, true, true, false, true, true, true, false, false, false, false] (fun s_ => [(68, s_.1), (72, s_.2)]) (fun s_ w' => (w'.cell? ⟨gb414, 0, none⟩ = some (.bool t406) ∧ w'.cell? ⟨gb414, 1, none⟩ = some (.slice Ao17 t407.length co17) ∧ w'.cell? ⟨gb414, 2, none⟩ = some (.slice Ao18 t410.length co18)) ∧ (Kd.R (Kd.int .i64) 3 w' w.heap.size (fun k_ => some k_ ≠ (s_.2 : Value).ownBlock ∧ so k_ Ao14 t400 co14 ∧ so k_ Ao15 t403 co15 ∧ so k_ Ao17 t407 co17 ∧ so k_ Ao18 t410 co18) s_.1 y422) ∧ (Kd.R (Kd.int .i64) 3 w' w.heap.size (fun k_ => some k_ ≠ (s_.1 : Value).ownBlock ∧ so k_ Ao14 t400 co14 ∧ so k_ Ao15 t403 co15 ∧ so k_ Ao17 t407 co17 ∧ so k_ Ao18 t410 co18) s_.2 y428) ∧ (Kd.R (Kd.int .i64) 3 w' w.heap.size (fun k_ => some k_ ≠ (s_.1 : Value).ownBlock ∧ some k_ ≠ (s_.2 : Value).ownBlock ∧ so k_ Ao15 t403 co15 ∧ so k_ Ao17 t407 co17 ∧ so k_ Ao18 t410 co18) (.slice Ao14 t400.length co14) t400) ∧ (Kd.Q (Kd.int .i64) 3 w' w.heap.size (fun k_ => some k_ ≠ (s_.1 : Value).ownBlock ∧ some k_ ≠ (s_.2 : Value).ownBlock ∧ so k_ Ao14 t400 co14 ∧ so k_ Ao17 t407 co17 ∧ so k_ Ao18 t410 co18) (.slice Ao15 t403.length co15) t403) ∧ (Kd.R (Kd.int .i64) 3 w' w.heap.size (fun k_ => some k_ ≠ (s_.1 : Value).ownBlock ∧ some k_ ≠ (s_.2 : Value).ownBlock ∧ so k_ Ao14 t400 co14 ∧ so k_ Ao15 t403 co15 ∧ so k_ Ao18 t410 co18) (.slice Ao17 t407.length co17) t407) ∧ (Kd.Q (Kd.int .i64) 3 w' w.heap.size (fun k_ => some k_ ≠ (s_.1 : Value).ownBlock ∧ some k_ ≠ (s_.2 : Value).ownBlock ∧ so k_ Ao14 t400 co14 ∧ so k_ Ao15 t403 co15 ∧ so k_ Ao17 t407 co17) (.slice Ao18 t410.length co18) t410) ∧ (Kd.N k48 48 w' w.heap.size (fun k_ => some k_ ≠ (s_.1 : Value).ownBlock ∧ some k_ ≠ (s_.2 : Value).ownBlock ∧ so k_ Ao14 t400 co14 ∧ so k_ Ao15 t403 co15 ∧ so k_ Ao17 t407 co17 ∧ so k_ Ao18 t410 co18 ∧ k_ ≠ gb413 ∧ k_ ≠ gb414) (.slice Ao19 t396.length co19) t396) ∧ (w'.heap[gb413]? = some (.cells #[.bool t399, .slice Ao14 t400.length co14, .slice Ao15 t403.length co15] 26 (0, 0))) ∧ (w'.heap[gb414]? = some (.cells #[.bool t406, .slice Ao17 t407.length co17, .slice Ao18 t410.length co18] 26 (0, 0))) ∧ (Below w.heap.size w w')) ?_ ?_
                   rotate_left
                   ·intro hJ0_4
                    refine join_ (σ := Value × Nat) 5 #[true, true, true, false, false, true, true, false, false, true, false] (fun s_ => [(68, s_.1), (9, .pointer (some ⟨s_.2, 0, none⟩))]) (fun s_ w' => (w'.cell? ⟨gb414, 0, none⟩ = some (.bool t406) ∧ w'.cell? ⟨gb414, 1, none⟩ = some (.slice Ao17 t407.length co17) ∧ w'.cell? ⟨gb414, 2, none⟩ = some (.slice Ao18 t410.length co18)) ∧ (Kd.R (Kd.int .i64) 3 w' w.heap.size (fun k_ => so k_ Ao14 t400 co14 ∧ so k_ Ao15 t403 co15 ∧ so k_ Ao17 t407 co17 ∧ so k_ Ao18 t410 co18) s_.1 y422) ∧ (Kd.R (Kd.int .i64) 3 w' w.heap.size (fun k_ => some k_ ≠ (s_.1 : Value).ownBlock ∧ so k_ Ao15 t403 co15 ∧ so k_ Ao17 t407 co17 ∧ so k_ Ao18 t410 co18) (.slice Ao14 t400.length co14) t400) ∧ (Kd.Q (Kd.int .i64) 3 w' w.heap.size (fun k_ => some k_ ≠ (s_.1 : Value).ownBlock ∧ so k_ Ao14 t400 co14 ∧ so k_ Ao17 t407 co17 ∧ so k_ Ao18 t410 co18) (.slice Ao15 t403.length co15) t403) ∧ (Kd.R (Kd.int .i64) 3 w' w.heap.size (fun k_ => some k_ ≠ (s_.1 : Value).ownBlock ∧ so k_ Ao14 t400 co14 ∧ so k_ Ao15 t403 co15 ∧ so k_ Ao18 t410 co18) (.slice Ao17 t407.length co17) t407) ∧ (Kd.Q (Kd.int .i64) 3 w' w.heap.size (fun k_ => some k_ ≠ (s_.1 : Value).ownBlock ∧ so k_ Ao14 t400 co14 ∧ so k_ Ao15 t403 co15 ∧ so k_ Ao17 t407 co17) (.slice Ao18 t410.length co18) t410) ∧ (Kd.N k48 48 w' w.heap.size (fun k_ => some k_ ≠ (s_.1 : Value).ownBlock ∧ so k_ Ao14 t400 co14 ∧ so k_ Ao15 t403 co15 ∧ so k_ Ao17 t407 co17 ∧ so k_ Ao18 t410 co18 ∧ k_ ≠ gb413 ∧ k_ ≠ gb414 ∧ k_ ≠ s_.2) (.slice Ao19 t396.length co19) t396) ∧ (w'.heap[gb413]? = some (.cells #[.bool t399, .slice Ao14 t400.length co14, .slice Ao15 t403.length co15] 26 (0, 0))) ∧ (w'.heap[gb414]? = some (.cells #[.bool t406, .slice Ao17 t407.length co17, .slice Ao18 t410.length co18] 26 (0, 0))) ∧ (w'.heap[s_.2]? = some (.cells #[.bool false, .slice none 0 0, .slice none 0 0] 26 (0, 0))) ∧ (w.heap.size ≤ s_.2) ∧ (w.heap.size ≤ s_.2) ∧ (gb413 ≠ s_.2) ∧ (s_.2 ≠ gb413) ∧ (gb414 ≠ s_.2) ∧ (s_.2 ≠ gb414) ∧ (Below w.heap.size w w')) ?_ ?_
                    rotate_left
                    ·intro hJ0_9
                     refine join_ (σ := Value × Nat) 5 #[false, true, true, false, true, true, true, false, false, true, false] (fun s_ => [(72, s_.1), (9, .pointer (some ⟨s_.2, 0, none⟩))]) (fun s_ w' => (w'.cell? ⟨gb414, 0, none⟩ = some (.bool t406) ∧ w'.cell? ⟨gb414, 1, none⟩ = some (.slice Ao17 t407.length co17) ∧ w'.cell? ⟨gb414, 2, none⟩ = some (.slice Ao18 t410.length co18)) ∧ (Kd.R (Kd.int .i64) 3 w' w.heap.size (fun k_ => so k_ Ao14 t400 co14 ∧ so k_ Ao15 t403 co15 ∧ so k_ Ao17 t407 co17 ∧ so k_ Ao18 t410 co18) s_.1 y428) ∧ (Kd.R (Kd.int .i64) 3 w' w.heap.size (fun k_ => some k_ ≠ (s_.1 : Value).ownBlock ∧ so k_ Ao15 t403 co15 ∧ so k_ Ao17 t407 co17 ∧ so k_ Ao18 t410 co18) (.slice Ao14 t400.length co14) t400) ∧ (Kd.Q (Kd.int .i64) 3 w' w.heap.size (fun k_ => some k_ ≠ (s_.1 : Value).ownBlock ∧ so k_ Ao14 t400 co14 ∧ so k_ Ao17 t407 co17 ∧ so k_ Ao18 t410 co18) (.slice Ao15 t403.length co15) t403) ∧ (Kd.R (Kd.int .i64) 3 w' w.heap.size (fun k_ => some k_ ≠ (s_.1 : Value).ownBlock ∧ so k_ Ao14 t400 co14 ∧ so k_ Ao15 t403 co15 ∧ so k_ Ao18 t410 co18) (.slice Ao17 t407.length co17) t407) ∧ (Kd.Q (Kd.int .i64) 3 w' w.heap.size (fun k_ => some k_ ≠ (s_.1 : Value).ownBlock ∧ so k_ Ao14 t400 co14 ∧ so k_ Ao15 t403 co15 ∧ so k_ Ao17 t407 co17) (.slice Ao18 t410.length co18) t410) ∧ (Kd.N k48 48 w' w.heap.size (fun k_ => some k_ ≠ (s_.1 : Value).ownBlock ∧ so k_ Ao14 t400 co14 ∧ so k_ Ao15 t403 co15 ∧ so k_ Ao17 t407 co17 ∧ so k_ Ao18 t410 co18 ∧ k_ ≠ gb413 ∧ k_ ≠ gb414 ∧ k_ ≠ s_.2) (.slice Ao19 t396.length co19) t396) ∧ (w'.heap[gb413]? = some (.cells #[.bool t399, .slice Ao14 t400.length co14, .slice Ao15 t403.length co15] 26 (0, 0))) ∧ (w'.heap[gb414]? = some (.cells #[.bool t406, .slice Ao17 t407.length co17, .slice Ao18 t410.length co18] 26 (0, 0))) ∧ (w'.heap[s_.2]? = some (.cells #[.bool false, .slice none 0 0, .slice none 0 0] 26 (0, 0))) ∧ (w.heap.size ≤ s_.2) ∧ (w.heap.size ≤ s_.2) ∧ (gb413 ≠ s_.2) ∧ (s_.2 ≠ gb413) ∧ (gb414 ≠ s_.2) ∧ (s_.2 ≠ gb414) ∧ (Below w.heap.size w w')) ?_ ?_
                     rotate_left
                     ·intro hJ4_9
                      refine join_ (σ := Value) 6 #[true, true, true, false, false, true, true, false, false, false, false] (fun s_ => [(68, s_)]) (fun s_ w' => (w'.cell? ⟨gb414, 0, none⟩ = some (.bool t406) ∧ w'.cell? ⟨gb414, 1, none⟩ = some (.slice Ao17 t407.length co17) ∧ w'.cell? ⟨gb414, 2, none⟩ = some (.slice Ao18 t410.length co18)) ∧ (Kd.R (Kd.int .i64) 3 w' w.heap.size (fun k_ => so k_ Ao14 t400 co14 ∧ so k_ Ao15 t403 co15 ∧ so k_ Ao17 t407 co17 ∧ so k_ Ao18 t410 co18) s_ y422) ∧ (Kd.R (Kd.int .i64) 3 w' w.heap.size (fun k_ => some k_ ≠ (s_ : Value).ownBlock ∧ so k_ Ao15 t403 co15 ∧ so k_ Ao17 t407 co17 ∧ so k_ Ao18 t410 co18) (.slice Ao14 t400.length co14) t400) ∧ (Kd.Q (Kd.int .i64) 3 w' w.heap.size (fun k_ => some k_ ≠ (s_ : Value).ownBlock ∧ so k_ Ao14 t400 co14 ∧ so k_ Ao17 t407 co17 ∧ so k_ Ao18 t410 co18) (.slice Ao15 t403.length co15) t403) ∧ (Kd.R (Kd.int .i64) 3 w' w.heap.size (fun k_ => some k_ ≠ (s_ : Value).ownBlock ∧ so k_ Ao14 t400 co14 ∧ so k_ Ao15 t403 co15 ∧ so k_ Ao18 t410 co18) (.slice Ao17 t407.length co17) t407) ∧ (Kd.Q (Kd.int .i64) 3 w' w.heap.size (fun k_ => some k_ ≠ (s_ : Value).ownBlock ∧ so k_ Ao14 t400 co14 ∧ so k_ Ao15 t403 co15 ∧ so k_ Ao17 t407 co17) (.slice Ao18 t410.length co18) t410) ∧ (Kd.N k48 48 w' w.heap.size (fun k_ => some k_ ≠ (s_ : Value).ownBlock ∧ so k_ Ao14 t400 co14 ∧ so k_ Ao15 t403 co15 ∧ so k_ Ao17 t407 co17 ∧ so k_ Ao18 t410 co18 ∧ k_ ≠ gb413 ∧ k_ ≠ gb414) (.slice Ao19 t396.length co19) t396) ∧ (w'.heap[gb413]? = some (.cells #[.bool t399, .slice Ao14 t400.length co14, .slice Ao15 t403.length co15] 26 (0, 0))) ∧ (w'.heap[gb414]? = some (.cells #[.bool t406, .slice Ao17 t407.length co17, .slice Ao18 t410.length co18] 26 (0, 0))) ∧ (Below w.heap.size w w')) ?_ ?_
                      rotate_left
                      ·intro hJ0
                       refine join_ (σ := Value) 6 #[false, true, true, false, true, true, true, false, false, false, false] (fun s_ => [(72, s_)]) (fun s_ w' => (w'.cell? ⟨gb414, 0, none⟩ = some (.bool t406) ∧ w'.cell? ⟨gb414, 1, none⟩ = some (.slice Ao17 t407.length co17) ∧ w'.cell? ⟨gb414, 2, none⟩ = some (.slice Ao18 t410.length co18)) ∧ (Kd.R (Kd.int .i64) 3 w' w.heap.size (fun k_ => so k_ Ao14 t400 co14 ∧ so k_ Ao15 t403 co15 ∧ so k_ Ao17 t407 co17 ∧ so k_ Ao18 t410 co18) s_ y428) ∧ (Kd.R (Kd.int .i64) 3 w' w.heap.size (fun k_ => some k_ ≠ (s_ : Value).ownBlock ∧ so k_ Ao15 t403 co15 ∧ so k_ Ao17 t407 co17 ∧ so k_ Ao18 t410 co18) (.slice Ao14 t400.length co14) t400) ∧ (Kd.Q (Kd.int .i64) 3 w' w.heap.size (fun k_ => some k_ ≠ (s_ : Value).ownBlock ∧ so k_ Ao14 t400 co14 ∧ so k_ Ao17 t407 co17 ∧ so k_ Ao18 t410 co18) (.slice Ao15 t403.length co15) t403) ∧ (Kd.R (Kd.int .i64) 3 w' w.heap.size (fun k_ => some k_ ≠ (s_ : Value).ownBlock ∧ so k_ Ao14 t400 co14 ∧ so k_ Ao15 t403 co15 ∧ so k_ Ao18 t410 co18) (.slice Ao17 t407.length co17) t407) ∧ (Kd.Q (Kd.int .i64) 3 w' w.heap.size (fun k_ => some k_ ≠ (s_ : Value).ownBlock ∧ so k_ Ao14 t400 co14 ∧ so k_ Ao15 t403 co15 ∧ so k_ Ao17 t407 co17) (.slice Ao18 t410.length co18) t410) ∧ (Kd.N k48 48 w' w.heap.size (fun k_ => some k_ ≠ (s_ : Value).ownBlock ∧ so k_ Ao14 t400 co14 ∧ so k_ Ao15 t403 co15 ∧ so k_ Ao17 t407 co17 ∧ so k_ Ao18 t410 co18 ∧ k_ ≠ gb413 ∧ k_ ≠ gb414) (.slice Ao19 t396.length co19) t396) ∧ (w'.heap[gb413]? = some (.cells #[.bool t399, .slice Ao14 t400.length co14, .slice Ao15 t403.length co15] 26 (0, 0))) ∧ (w'.heap[gb414]? = some (.cells #[.bool t406, .slice Ao17 t407.length co17, .slice Ao18 t410.length co18] 26 (0, 0))) ∧ (Below w.heap.size w w')) ?_ ?_
                       rotate_left
                       ·intro hJ4
                        refine join_ (σ := Nat) 6 #[false, true, true, false, false, true, true, false, false, true, false] (fun s_ => [(9, .pointer (some ⟨s_, 0, none⟩))]) (fun s_ w' => (w'.cell? ⟨gb414, 0, none⟩ = some (.bool t406) ∧ w'.cell? ⟨gb414, 1, none⟩ = some (.slice Ao17 t407.length co17) ∧ w'.cell? ⟨gb414, 2, none⟩ = some (.slice Ao18 t410.length co18)) ∧ (Kd.R (Kd.int .i64) 3 w' w.heap.size (fun k_ => so k_ Ao15 t403 co15 ∧ so k_ Ao17 t407 co17 ∧ so k_ Ao18 t410 co18) (.slice Ao14 t400.length co14) t400) ∧ (Kd.Q (Kd.int .i64) 3 w' w.heap.size (fun k_ => so k_ Ao14 t400 co14 ∧ so k_ Ao17 t407 co17 ∧ so k_ Ao18 t410 co18) (.slice Ao15 t403.length co15) t403) ∧ (Kd.R (Kd.int .i64) 3 w' w.heap.size (fun k_ => so k_ Ao14 t400 co14 ∧ so k_ Ao15 t403 co15 ∧ so k_ Ao18 t410 co18) (.slice Ao17 t407.length co17) t407) ∧ (Kd.Q (Kd.int .i64) 3 w' w.heap.size (fun k_ => so k_ Ao14 t400 co14 ∧ so k_ Ao15 t403 co15 ∧ so k_ Ao17 t407 co17) (.slice Ao18 t410.length co18) t410) ∧ (Kd.N k48 48 w' w.heap.size (fun k_ => so k_ Ao14 t400 co14 ∧ so k_ Ao15 t403 co15 ∧ so k_ Ao17 t407 co17 ∧ so k_ Ao18 t410 co18 ∧ k_ ≠ gb413 ∧ k_ ≠ gb414 ∧ k_ ≠ s_) (.slice Ao19 t396.length co19) t396) ∧ (w'.heap[gb413]? = some (.cells #[.bool t399, .slice Ao14 t400.length co14, .slice Ao15 t403.length co15] 26 (0, 0))) ∧ (w'.heap[gb414]? = some (.cells #[.bool t406, .slice Ao17 t407.length co17, .slice Ao18 t410.length co18] 26 (0, 0))) ∧ (w'.heap[s_]? = some (.cells #[.bool false, .slice none 0 0, .slice none 0 0] 26 (0, 0))) ∧ (w.heap.size ≤ s_) ∧ (w.heap.size ≤ s_) ∧ (gb413 ≠ s_) ∧ (s_ ≠ gb413) ∧ (gb414 ≠ s_) ∧ (s_ ≠ gb414) ∧ (Below w.heap.size w w')) ?_ ?_
                        rotate_left
                        ·intro hJ9
                         refine three_ (i := 0) (j := 4) (k := 9) (Ni := some 68) (Nj := some 72) (Nk := some 9) #[true, true, true, false, false, true, true, false, false, false, false] #[false, true, true, false, true, true, true, false, false, false, false] #[false, true, true, false, false, true, true, false, false, true, false] rfl rfl rfl rfl rfl rfl (three_of HT_.out (by kernel_rfl)) (by decide) (by decide) (by decide) (fun K hK => ?_) (fun K hK => ?_) (fun K hK => ?_)
                         ·skip
                          refine Kd.R_lit_step (Kd.int .i64) _ 3 ?hg (N := 68) ?hd (xs := ([] : List Int)) (inner := []) (ok := fun _ => True) (okp := fun _ => True) ?hr ?hp (fun _ hk => hk) trivial (Below.refl _ _) (Nat.le_refl _) (by simp) ?_; (case hd => rfl); (case hg => rfl); (case hr => first | (go_simp; done) | (go_simp; rfl)); (case hp => exact (Reps.none _ _))
                          intro v423 w85 ho86 hb hg_ hnew_
                          clear hg_ hnew_
                          (first | rw [← Ny422.out] at ho86 | (simp only [Int.reduceToNat] at ho86; rw [← Ny422.out] at ho86))
                          have HO424 := Aside0.mk (Kd.R_lower (Kd.R_new' (Kd.R_new' (Kd.R_new' (Kd.R_new' ho86 (Kd.R_lt HO_414001.out)) (Kd.Q_lt HO_414002.out)) (Kd.R_lt HO_415001.out)) (Kd.Q_lt HO_415002.out)) (below_size bl))
                          replace HO_5 := Aside0.mk (Kd.N_elder' HO_5.out (Kd.R_base ho86) hb)
                          replace HO_414001 := Aside0.mk (Kd.R_elder' HO_414001.out (Kd.R_base ho86) hb)
                          replace HO_414002 := Aside0.mk (Kd.Q_elder' HO_414002.out (Kd.R_base ho86) hb)
                          replace HO_415001 := Aside0.mk (Kd.R_elder' HO_415001.out (Kd.R_base ho86) hb)
                          replace HO_415002 := Aside0.mk (Kd.Q_elder' HO_415002.out (Kd.R_base ho86) hb)
                          replace BK413 := kb BK413 hb
                          replace BK414 := kb BK414 hb
                          replace HB := hs HB hb
                          clear hb ho86
                          refine hK.out _ _ ⟨(blk_cell BK414.out 0).trans rfl, (blk_cell BK414.out 1).trans rfl, (blk_cell BK414.out 2).trans rfl⟩ (fun hHeld => ?_)
                          clear hK K
                          refine no 68 ?_
                          exact norm_ (by first | (simp only [putAll, Act.put, List.setIfInBounds_toArray, List.set_cons_zero, List.set_cons_succ]; done) | (simp only [putAll, Act.put, List.setIfInBounds_toArray, List.set_cons_zero, List.set_cons_succ]; rfl)) (hJ0 (v423) _ ⟨hHeld, (Kd.R_mono HO424.out (fun _ hk => ⟨hk.1.1.1.2, ⟨hk.1.1.2, ⟨hk.1.2, hk.2⟩⟩⟩)), (Kd.R_mono HO_414001.out (fun _ hk => ⟨hk.2, ⟨hk.1.1, ⟨hk.1.2.1, hk.1.2.2⟩⟩⟩)), (Kd.Q_mono HO_414002.out (fun _ hk => ⟨hk.2, ⟨hk.1.1, ⟨hk.1.2.1, hk.1.2.2⟩⟩⟩)), (Kd.R_mono HO_415001.out (fun _ hk => ⟨hk.2, ⟨hk.1.1, ⟨hk.1.2.1, hk.1.2.2⟩⟩⟩)), (Kd.Q_mono HO_415002.out (fun _ hk => ⟨hk.2, ⟨hk.1.1, ⟨hk.1.2.1, hk.1.2.2⟩⟩⟩)), (Kd.N_mono HO_5.out (fun _ hk => ⟨hk.2, ⟨hk.1.1, ⟨hk.1.2.1, ⟨hk.1.2.2.1, ⟨hk.1.2.2.2.1, ⟨hk.1.2.2.2.2.1, hk.1.2.2.2.2.2⟩⟩⟩⟩⟩⟩)), BK413.out, BK414.out, bl⟩)
                         ·skip
                          refine Kd.R_lit_step (Kd.int .i64) _ 3 ?hg (N := 72) ?hd (xs := ([] : List Int)) (inner := []) (ok := fun _ => True) (okp := fun _ => True) ?hr ?hp (fun _ hk => hk) trivial (Below.refl _ _) (Nat.le_refl _) (by simp) ?_; (case hd => rfl); (case hg => rfl); (case hr => first | (go_simp; done) | (go_simp; rfl)); (case hp => exact (Reps.none _ _))
                          intro v429 w85 ho86 hb hg_ hnew_
                          clear hg_ hnew_
                          (first | rw [← Ny428.out] at ho86 | (simp only [Int.reduceToNat] at ho86; rw [← Ny428.out] at ho86))
                          have HO430 := Aside0.mk (Kd.R_lower (Kd.R_new' (Kd.R_new' (Kd.R_new' (Kd.R_new' ho86 (Kd.R_lt HO_414001.out)) (Kd.Q_lt HO_414002.out)) (Kd.R_lt HO_415001.out)) (Kd.Q_lt HO_415002.out)) (below_size bl))
                          replace HO_5 := Aside0.mk (Kd.N_elder' HO_5.out (Kd.R_base ho86) hb)
                          replace HO_414001 := Aside0.mk (Kd.R_elder' HO_414001.out (Kd.R_base ho86) hb)
                          replace HO_414002 := Aside0.mk (Kd.Q_elder' HO_414002.out (Kd.R_base ho86) hb)
                          replace HO_415001 := Aside0.mk (Kd.R_elder' HO_415001.out (Kd.R_base ho86) hb)
                          replace HO_415002 := Aside0.mk (Kd.Q_elder' HO_415002.out (Kd.R_base ho86) hb)
                          replace BK413 := kb BK413 hb
                          replace BK414 := kb BK414 hb
                          replace HB := hs HB hb
                          clear hb ho86
                          refine hK.out _ _ ⟨(blk_cell BK414.out 0).trans rfl, (blk_cell BK414.out 1).trans rfl, (blk_cell BK414.out 2).trans rfl⟩ (fun hHeld => ?_)
                          clear hK K
                          refine no 72 ?_
                          exact norm_ (by first | (simp only [putAll, Act.put, List.setIfInBounds_toArray, List.set_cons_zero, List.set_cons_succ]; done) | (simp only [putAll, Act.put, List.setIfInBounds_toArray, List.set_cons_zero, List.set_cons_succ]; rfl)) (hJ4 (v429) _ ⟨hHeld, (Kd.R_mono HO430.out (fun _ hk => ⟨hk.1.1.1.2, ⟨hk.1.1.2, ⟨hk.1.2, hk.2⟩⟩⟩)), (Kd.R_mono HO_414001.out (fun _ hk => ⟨hk.2, ⟨hk.1.1, ⟨hk.1.2.1, hk.1.2.2⟩⟩⟩)), (Kd.Q_mono HO_414002.out (fun _ hk => ⟨hk.2, ⟨hk.1.1, ⟨hk.1.2.1, hk.1.2.2⟩⟩⟩)), (Kd.R_mono HO_415001.out (fun _ hk => ⟨hk.2, ⟨hk.1.1, ⟨hk.1.2.1, hk.1.2.2⟩⟩⟩)), (Kd.Q_mono HO_415002.out (fun _ hk => ⟨hk.2, ⟨hk.1.1, ⟨hk.1.2.1, hk.1.2.2⟩⟩⟩)), (Kd.N_mono HO_5.out (fun _ hk => ⟨hk.2, ⟨hk.1.1, ⟨hk.1.2.1, ⟨hk.1.2.2.1, ⟨hk.1.2.2.2.1, ⟨hk.1.2.2.2.2.1, hk.1.2.2.2.2.2⟩⟩⟩⟩⟩⟩)), BK413.out, BK414.out, bl⟩)
                         ·skip
                          refine box_step ?hg (N := 9) ?hd (cs := #[.bool false, .slice none 0 0, .slice none 0 0]) (t := 26) ?hr ?_; (case hd => rfl); (case hg => rfl); (case hr => first | (go_simp; done) | (go_simp; rfl))
                          intro gb434 hg w85 hbox hb
                          have BK434 := Aside0.mk hbox
                          have GW434 := hz HB hg
                          have GE434 := hz HB hg
                          have NB413_434 := nl BK413 hg
                          have NB434_413 := ng BK413 hg
                          have NB414_434 := nl BK414 hg
                          have NB434_414 := ng BK414 hg
                          replace HO_5 := Aside0.mk (Kd.N_below (Kd.N_elderB HO_5.out gb434 (Nat.le_of_eq hg.symm)) hb)
                          replace HO_414001 := rb HO_414001 hb
                          replace HO_414002 := qb HO_414002 hb
                          replace HO_415001 := rb HO_415001 hb
                          replace HO_415002 := qb HO_415002 hb
                          replace BK413 := kb BK413 hb
                          replace BK414 := kb BK414 hb
                          replace HB := hs HB hb
                          clear hb hbox hg
                          refine hK.out _ _ ⟨(blk_cell BK414.out 0).trans rfl, (blk_cell BK414.out 1).trans rfl, (blk_cell BK414.out 2).trans rfl⟩ (fun hHeld => ?_)
                          clear hK K
                          refine no 9 ?_
                          exact norm_ (by first | (simp only [putAll, Act.put, List.setIfInBounds_toArray, List.set_cons_zero, List.set_cons_succ]; done) | (simp only [putAll, Act.put, List.setIfInBounds_toArray, List.set_cons_zero, List.set_cons_succ]; rfl)) (hJ9 (gb434) _ ⟨hHeld, HO_414001.out, HO_414002.out, HO_415001.out, HO_415002.out, (Kd.N_mono HO_5.out (fun _ hk => ⟨hk.1.1, ⟨hk.1.2.1, ⟨hk.1.2.2.1, ⟨hk.1.2.2.2.1, ⟨hk.1.2.2.2.2.1, ⟨hk.1.2.2.2.2.2, hk.2⟩⟩⟩⟩⟩⟩)), BK413.out, BK414.out, BK434.out, GW434.out, GE434.out, NB413_434.out, NB434_413.out, NB414_434.out, NB434_414.out, bl⟩)
                        ·skip
                         rintro gb434 w86 ⟨hS_, h0_, h1_, h2_, h3_, h4_, h5_, h6_, h7_, h8_, h9_, h10_, h11_, h12_, h13_, h14_⟩
                         have n0_ : Aside0 (Kd.R (Kd.int .i64) 3 w86 w.heap.size (fun k_ => so k_ Ao15 t403 co15 ∧ so k_ Ao17 t407 co17 ∧ so k_ Ao18 t410 co18) (.slice Ao14 t400.length co14) t400) := ⟨h0_⟩
                         have n1_ : Aside0 (Kd.Q (Kd.int .i64) 3 w86 w.heap.size (fun k_ => so k_ Ao14 t400 co14 ∧ so k_ Ao17 t407 co17 ∧ so k_ Ao18 t410 co18) (.slice Ao15 t403.length co15) t403) := ⟨h1_⟩
                         have n2_ : Aside0 (Kd.R (Kd.int .i64) 3 w86 w.heap.size (fun k_ => so k_ Ao14 t400 co14 ∧ so k_ Ao15 t403 co15 ∧ so k_ Ao18 t410 co18) (.slice Ao17 t407.length co17) t407) := ⟨h2_⟩
                         have n3_ : Aside0 (Kd.Q (Kd.int .i64) 3 w86 w.heap.size (fun k_ => so k_ Ao14 t400 co14 ∧ so k_ Ao15 t403 co15 ∧ so k_ Ao17 t407 co17) (.slice Ao18 t410.length co18) t410) := ⟨h3_⟩
                         have n4_ : Aside0 (Kd.N k48 48 w86 w.heap.size (fun k_ => so k_ Ao14 t400 co14 ∧ so k_ Ao15 t403 co15 ∧ so k_ Ao17 t407 co17 ∧ so k_ Ao18 t410 co18 ∧ k_ ≠ gb413 ∧ k_ ≠ gb414 ∧ k_ ≠ gb434) (.slice Ao19 t396.length co19) t396) := ⟨h4_⟩
                         have n5_ : Aside0 (w86.heap[gb413]? = some (.cells #[.bool t399, .slice Ao14 t400.length co14, .slice Ao15 t403.length co15] 26 (0, 0))) := ⟨h5_⟩
                         have n6_ : Aside0 (w86.heap[gb414]? = some (.cells #[.bool t406, .slice Ao17 t407.length co17, .slice Ao18 t410.length co18] 26 (0, 0))) := ⟨h6_⟩
                         have n7_ : Aside0 (w86.heap[gb434]? = some (.cells #[.bool false, .slice none 0 0, .slice none 0 0] 26 (0, 0))) := ⟨h7_⟩
                         have n8_ : Aside0 (w.heap.size ≤ gb434) := ⟨h8_⟩
                         have n9_ : Aside0 (w.heap.size ≤ gb434) := ⟨h9_⟩
                         have n10_ : Aside0 (gb413 ≠ gb434) := ⟨h10_⟩
                         have n11_ : Aside0 (gb434 ≠ gb413) := ⟨h11_⟩
                         have n12_ : Aside0 (gb414 ≠ gb434) := ⟨h12_⟩
                         have n13_ : Aside0 (gb434 ≠ gb414) := ⟨h13_⟩
                         have n14_ : Aside0 (Below w.heap.size w w86) := ⟨h14_⟩
                         clear HO_5
                         clear HO_414001
                         clear HO_414002
                         clear HO_415001
                         clear HO_415002
                         clear BK413
                         clear BK414
                         clear HB
                         clear h0_ h1_ h2_ h3_ h4_ h5_ h6_ h7_ h8_ h9_ h10_ h11_ h12_ h13_ h14_
                         have HO_414001 := n0_
                         have HO_414002 := n1_
                         have HO_415001 := n2_
                         have HO_415002 := n3_
                         have HO_5 := n4_
                         have BK413 := n5_
                         have BK414 := n6_
                         have BK434 := n7_
                         have GW434 := n8_
                         have GE434 := n9_
                         have NB413_434 := n10_
                         have NB434_413 := n11_
                         have NB414_434 := n12_
                         have NB434_414 := n13_
                         have HB := n14_
                         clear n0_ n1_ n2_ n3_ n4_ n5_ n6_ n7_ n8_ n9_ n10_ n11_ n12_ n13_ n14_
                         have hHeld : w86.cell? ⟨gb414, 0, none⟩ = some (.bool t406) ∧ w86.cell? ⟨gb414, 1, none⟩ = some (.slice Ao17 t407.length co17) ∧ w86.cell? ⟨gb414, 2, none⟩ = some (.slice Ao18 t410.length co18) := hS_
                         refine norm_ (a' := ?_) ?_ ?_
                         rotate_left
                         ·simp only [putAll, Act.put, List.setIfInBounds_toArray, List.set_cons_zero, List.set_cons_succ]
                          rfl
                         refine two_ (i := 0) (j := 4) (Ni := some 68) (Nj := some 72) #[true, true, true, false, false, true, true, false, false, true, false] #[false, true, true, false, true, true, true, false, false, true, false] rfl rfl rfl rfl (two_of HT_.out (by kernel_rfl)) (by decide) (by decide) (fun K hK => ?_) (fun K hK => ?_)
                         ·skip
                          refine Kd.R_lit_step (Kd.int .i64) _ 3 ?hg (N := 68) ?hd (xs := ([] : List Int)) (inner := []) (ok := fun _ => True) (okp := fun _ => True) ?hr ?hp (fun _ hk => hk) trivial (Below.refl _ _) (Nat.le_refl _) (by simp) ?_; (case hd => rfl); (case hg => rfl); (case hr => first | (go_simp; done) | (go_simp; rfl)); (case hp => exact (Reps.none _ _))
                          intro v423 w87 ho88 hb hg_ hnew_
                          clear hg_ hnew_
                          (first | rw [← Ny422.out] at ho88 | (simp only [Int.reduceToNat] at ho88; rw [← Ny422.out] at ho88))
                          have HO424 := Aside0.mk (Kd.R_lower (Kd.R_new' (Kd.R_new' (Kd.R_new' (Kd.R_new' ho88 (Kd.R_lt HO_414001.out)) (Kd.Q_lt HO_414002.out)) (Kd.R_lt HO_415001.out)) (Kd.Q_lt HO_415002.out)) (below_size bl))
                          replace HO_5 := Aside0.mk (Kd.N_elder' HO_5.out (Kd.R_base ho88) hb)
                          replace HO_414001 := Aside0.mk (Kd.R_elder' HO_414001.out (Kd.R_base ho88) hb)
                          replace HO_414002 := Aside0.mk (Kd.Q_elder' HO_414002.out (Kd.R_base ho88) hb)
                          replace HO_415001 := Aside0.mk (Kd.R_elder' HO_415001.out (Kd.R_base ho88) hb)
                          replace HO_415002 := Aside0.mk (Kd.Q_elder' HO_415002.out (Kd.R_base ho88) hb)
                          replace BK413 := kb BK413 hb
                          replace BK414 := kb BK414 hb
                          replace BK434 := kb BK434 hb
                          replace HB := hs HB hb
                          clear hb ho88
                          refine hK.out _ _ ⟨(blk_cell BK414.out 0).trans rfl, (blk_cell BK414.out 1).trans rfl, (blk_cell BK414.out 2).trans rfl⟩ (fun hHeld => ?_)
                          clear hK K
                          refine no 68 ?_
                          exact norm_ (by first | (simp only [putAll, Act.put, List.setIfInBounds_toArray, List.set_cons_zero, List.set_cons_succ]; done) | (simp only [putAll, Act.put, List.setIfInBounds_toArray, List.set_cons_zero, List.set_cons_succ]; rfl)) (hJ0_9 (v423, gb434) _ ⟨hHeld, (Kd.R_mono HO424.out (fun _ hk => ⟨hk.1.1.1.2, ⟨hk.1.1.2, ⟨hk.1.2, hk.2⟩⟩⟩)), (Kd.R_mono HO_414001.out (fun _ hk => ⟨hk.2, ⟨hk.1.1, ⟨hk.1.2.1, hk.1.2.2⟩⟩⟩)), (Kd.Q_mono HO_414002.out (fun _ hk => ⟨hk.2, ⟨hk.1.1, ⟨hk.1.2.1, hk.1.2.2⟩⟩⟩)), (Kd.R_mono HO_415001.out (fun _ hk => ⟨hk.2, ⟨hk.1.1, ⟨hk.1.2.1, hk.1.2.2⟩⟩⟩)), (Kd.Q_mono HO_415002.out (fun _ hk => ⟨hk.2, ⟨hk.1.1, ⟨hk.1.2.1, hk.1.2.2⟩⟩⟩)), (Kd.N_mono HO_5.out (fun _ hk => ⟨hk.2, ⟨hk.1.1, ⟨hk.1.2.1, ⟨hk.1.2.2.1, ⟨hk.1.2.2.2.1, ⟨hk.1.2.2.2.2.1, ⟨hk.1.2.2.2.2.2.1, hk.1.2.2.2.2.2.2⟩⟩⟩⟩⟩⟩⟩)), BK413.out, BK414.out, BK434.out, GW434.out, GE434.out, NB413_434.out, NB434_413.out, NB414_434.out, NB434_414.out, bl⟩)
                         ·skip
                          refine Kd.R_lit_step (Kd.int .i64) _ 3 ?hg (N := 72) ?hd (xs := ([] : List Int)) (inner := []) (ok := fun _ => True) (okp := fun _ => True) ?hr ?hp (fun _ hk => hk) trivial (Below.refl _ _) (Nat.le_refl _) (by simp) ?_; (case hd => rfl); (case hg => rfl); (case hr => first | (go_simp; done) | (go_simp; rfl)); (case hp => exact (Reps.none _ _))
                          intro v429 w87 ho88 hb hg_ hnew_
                          clear hg_ hnew_
                          (first | rw [← Ny428.out] at ho88 | (simp only [Int.reduceToNat] at ho88; rw [← Ny428.out] at ho88))
                          have HO430 := Aside0.mk (Kd.R_lower (Kd.R_new' (Kd.R_new' (Kd.R_new' (Kd.R_new' ho88 (Kd.R_lt HO_414001.out)) (Kd.Q_lt HO_414002.out)) (Kd.R_lt HO_415001.out)) (Kd.Q_lt HO_415002.out)) (below_size bl))
                          replace HO_5 := Aside0.mk (Kd.N_elder' HO_5.out (Kd.R_base ho88) hb)
                          replace HO_414001 := Aside0.mk (Kd.R_elder' HO_414001.out (Kd.R_base ho88) hb)
                          replace HO_414002 := Aside0.mk (Kd.Q_elder' HO_414002.out (Kd.R_base ho88) hb)
                          replace HO_415001 := Aside0.mk (Kd.R_elder' HO_415001.out (Kd.R_base ho88) hb)
                          replace HO_415002 := Aside0.mk (Kd.Q_elder' HO_415002.out (Kd.R_base ho88) hb)
                          replace BK413 := kb BK413 hb
                          replace BK414 := kb BK414 hb
                          replace BK434 := kb BK434 hb
                          replace HB := hs HB hb
                          clear hb ho88
                          refine hK.out _ _ ⟨(blk_cell BK414.out 0).trans rfl, (blk_cell BK414.out 1).trans rfl, (blk_cell BK414.out 2).trans rfl⟩ (fun hHeld => ?_)
                          clear hK K
                          refine no 72 ?_
                          exact norm_ (by first | (simp only [putAll, Act.put, List.setIfInBounds_toArray, List.set_cons_zero, List.set_cons_succ]; done) | (simp only [putAll, Act.put, List.setIfInBounds_toArray, List.set_cons_zero, List.set_cons_succ]; rfl)) (hJ4_9 (v429, gb434) _ ⟨hHeld, (Kd.R_mono HO430.out (fun _ hk => ⟨hk.1.1.1.2, ⟨hk.1.1.2, ⟨hk.1.2, hk.2⟩⟩⟩)), (Kd.R_mono HO_414001.out (fun _ hk => ⟨hk.2, ⟨hk.1.1, ⟨hk.1.2.1, hk.1.2.2⟩⟩⟩)), (Kd.Q_mono HO_414002.out (fun _ hk => ⟨hk.2, ⟨hk.1.1, ⟨hk.1.2.1, hk.1.2.2⟩⟩⟩)), (Kd.R_mono HO_415001.out (fun _ hk => ⟨hk.2, ⟨hk.1.1, ⟨hk.1.2.1, hk.1.2.2⟩⟩⟩)), (Kd.Q_mono HO_415002.out (fun _ hk => ⟨hk.2, ⟨hk.1.1, ⟨hk.1.2.1, hk.1.2.2⟩⟩⟩)), (Kd.N_mono HO_5.out (fun _ hk => ⟨hk.2, ⟨hk.1.1, ⟨hk.1.2.1, ⟨hk.1.2.2.1, ⟨hk.1.2.2.2.1, ⟨hk.1.2.2.2.2.1, ⟨hk.1.2.2.2.2.2.1, hk.1.2.2.2.2.2.2⟩⟩⟩⟩⟩⟩⟩)), BK413.out, BK414.out, BK434.out, GW434.out, GE434.out, NB413_434.out, NB434_413.out, NB414_434.out, NB434_414.out, bl⟩)
                       ·skip
                        rintro v429 w87 ⟨hS_, h0_, h1_, h2_, h3_, h4_, h5_, h6_, h7_, h8_⟩
                        have n0_ : Aside0 (Kd.R (Kd.int .i64) 3 w87 w.heap.size (fun k_ => so k_ Ao14 t400 co14 ∧ so k_ Ao15 t403 co15 ∧ so k_ Ao17 t407 co17 ∧ so k_ Ao18 t410 co18) v429 y428) := ⟨h0_⟩
                        have n1_ : Aside0 (Kd.R (Kd.int .i64) 3 w87 w.heap.size (fun k_ => some k_ ≠ (v429 : Value).ownBlock ∧ so k_ Ao15 t403 co15 ∧ so k_ Ao17 t407 co17 ∧ so k_ Ao18 t410 co18) (.slice Ao14 t400.length co14) t400) := ⟨h1_⟩
                        have n2_ : Aside0 (Kd.Q (Kd.int .i64) 3 w87 w.heap.size (fun k_ => some k_ ≠ (v429 : Value).ownBlock ∧ so k_ Ao14 t400 co14 ∧ so k_ Ao17 t407 co17 ∧ so k_ Ao18 t410 co18) (.slice Ao15 t403.length co15) t403) := ⟨h2_⟩
                        have n3_ : Aside0 (Kd.R (Kd.int .i64) 3 w87 w.heap.size (fun k_ => some k_ ≠ (v429 : Value).ownBlock ∧ so k_ Ao14 t400 co14 ∧ so k_ Ao15 t403 co15 ∧ so k_ Ao18 t410 co18) (.slice Ao17 t407.length co17) t407) := ⟨h3_⟩
                        have n4_ : Aside0 (Kd.Q (Kd.int .i64) 3 w87 w.heap.size (fun k_ => some k_ ≠ (v429 : Value).ownBlock ∧ so k_ Ao14 t400 co14 ∧ so k_ Ao15 t403 co15 ∧ so k_ Ao17 t407 co17) (.slice Ao18 t410.length co18) t410) := ⟨h4_⟩
                        have n5_ : Aside0 (Kd.N k48 48 w87 w.heap.size (fun k_ => some k_ ≠ (v429 : Value).ownBlock ∧ so k_ Ao14 t400 co14 ∧ so k_ Ao15 t403 co15 ∧ so k_ Ao17 t407 co17 ∧ so k_ Ao18 t410 co18 ∧ k_ ≠ gb413 ∧ k_ ≠ gb414) (.slice Ao19 t396.length co19) t396) := ⟨h5_⟩
                        have n6_ : Aside0 (w87.heap[gb413]? = some (.cells #[.bool t399, .slice Ao14 t400.length co14, .slice Ao15 t403.length co15] 26 (0, 0))) := ⟨h6_⟩
                        have n7_ : Aside0 (w87.heap[gb414]? = some (.cells #[.bool t406, .slice Ao17 t407.length co17, .slice Ao18 t410.length co18] 26 (0, 0))) := ⟨h7_⟩
                        have n8_ : Aside0 (Below w.heap.size w w87) := ⟨h8_⟩
                        clear HO_5
                        clear HO_414001
                        clear HO_414002
                        clear HO_415001
                        clear HO_415002
                        clear BK413
                        clear BK414
                        clear HB
                        clear h0_ h1_ h2_ h3_ h4_ h5_ h6_ h7_ h8_
                        have HO430 := n0_
                        have HO_414001 := n1_
                        have HO_414002 := n2_
                        have HO_415001 := n3_
                        have HO_415002 := n4_
                        have HO_5 := n5_
                        have BK413 := n6_
                        have BK414 := n7_
                        have HB := n8_
                        clear n0_ n1_ n2_ n3_ n4_ n5_ n6_ n7_ n8_
                        have hHeld : w87.cell? ⟨gb414, 0, none⟩ = some (.bool t406) ∧ w87.cell? ⟨gb414, 1, none⟩ = some (.slice Ao17 t407.length co17) ∧ w87.cell? ⟨gb414, 2, none⟩ = some (.slice Ao18 t410.length co18) := hS_
                        refine norm_ (a' := ?_) ?_ ?_
                        rotate_left
                        ·simp only [putAll, Act.put, List.setIfInBounds_toArray, List.set_cons_zero, List.set_cons_succ]
                         rfl
                        refine two_ (i := 0) (j := 9) (Ni := some 68) (Nj := some 9) #[true, true, true, false, true, true, true, false, false, false, false] #[false, true, true, false, true, true, true, false, false, true, false] rfl rfl rfl rfl (two_of HT_.out (by kernel_rfl)) (by decide) (by decide) (fun K hK => ?_) (fun K hK => ?_)
                        ·skip
                         refine Kd.R_lit_step (Kd.int .i64) _ 3 ?hg (N := 68) ?hd (xs := ([] : List Int)) (inner := []) (ok := fun _ => True) (okp := fun _ => True) ?hr ?hp (fun _ hk => hk) trivial (Below.refl _ _) (Nat.le_refl _) (by simp) ?_; (case hd => rfl); (case hg => rfl); (case hr => first | (go_simp; done) | (go_simp; rfl)); (case hp => exact (Reps.none _ _))
                         intro v423 w88 ho89 hb hg_ hnew_
                         clear hg_ hnew_
                         (first | rw [← Ny422.out] at ho89 | (simp only [Int.reduceToNat] at ho89; rw [← Ny422.out] at ho89))
                         have HO424 := Aside0.mk (Kd.R_lower (Kd.R_new' (Kd.R_new' (Kd.R_new' (Kd.R_new' (Kd.R_new' ho89 (Kd.R_lt HO_414001.out)) (Kd.Q_lt HO_414002.out)) (Kd.R_lt HO_415001.out)) (Kd.Q_lt HO_415002.out)) (Kd.R_lt HO430.out)) (below_size bl))
                         replace HO_5 := Aside0.mk (Kd.N_elder' HO_5.out (Kd.R_base ho89) hb)
                         replace HO_414001 := Aside0.mk (Kd.R_elder' HO_414001.out (Kd.R_base ho89) hb)
                         replace HO_414002 := Aside0.mk (Kd.Q_elder' HO_414002.out (Kd.R_base ho89) hb)
                         replace HO_415001 := Aside0.mk (Kd.R_elder' HO_415001.out (Kd.R_base ho89) hb)
                         replace HO_415002 := Aside0.mk (Kd.Q_elder' HO_415002.out (Kd.R_base ho89) hb)
                         replace HO430 := Aside0.mk (Kd.R_elder' HO430.out (Kd.R_base ho89) hb)
                         replace BK413 := kb BK413 hb
                         replace BK414 := kb BK414 hb
                         replace HB := hs HB hb
                         clear hb ho89
                         refine hK.out _ _ ⟨(blk_cell BK414.out 0).trans rfl, (blk_cell BK414.out 1).trans rfl, (blk_cell BK414.out 2).trans rfl⟩ (fun hHeld => ?_)
                         clear hK K
                         refine no 68 ?_
                         exact norm_ (by first | (simp only [putAll, Act.put, List.setIfInBounds_toArray, List.set_cons_zero, List.set_cons_succ]; done) | (simp only [putAll, Act.put, List.setIfInBounds_toArray, List.set_cons_zero, List.set_cons_succ]; rfl)) (hJ0_4 (v423, v429) _ ⟨hHeld, (Kd.R_mono HO424.out (fun _ hk => ⟨hk.2, ⟨hk.1.1.1.1.2, ⟨hk.1.1.1.2, ⟨hk.1.1.2, hk.1.2⟩⟩⟩⟩)), (Kd.R_mono HO430.out (fun _ hk => ⟨hk.2, ⟨hk.1.1, ⟨hk.1.2.1, ⟨hk.1.2.2.1, hk.1.2.2.2⟩⟩⟩⟩)), (Kd.R_mono HO_414001.out (fun _ hk => ⟨hk.2, ⟨hk.1.1, ⟨hk.1.2.1, ⟨hk.1.2.2.1, hk.1.2.2.2⟩⟩⟩⟩)), (Kd.Q_mono HO_414002.out (fun _ hk => ⟨hk.2, ⟨hk.1.1, ⟨hk.1.2.1, ⟨hk.1.2.2.1, hk.1.2.2.2⟩⟩⟩⟩)), (Kd.R_mono HO_415001.out (fun _ hk => ⟨hk.2, ⟨hk.1.1, ⟨hk.1.2.1, ⟨hk.1.2.2.1, hk.1.2.2.2⟩⟩⟩⟩)), (Kd.Q_mono HO_415002.out (fun _ hk => ⟨hk.2, ⟨hk.1.1, ⟨hk.1.2.1, ⟨hk.1.2.2.1, hk.1.2.2.2⟩⟩⟩⟩)), (Kd.N_mono HO_5.out (fun _ hk => ⟨hk.2, ⟨hk.1.1, ⟨hk.1.2.1, ⟨hk.1.2.2.1, ⟨hk.1.2.2.2.1, ⟨hk.1.2.2.2.2.1, ⟨hk.1.2.2.2.2.2.1, hk.1.2.2.2.2.2.2⟩⟩⟩⟩⟩⟩⟩)), BK413.out, BK414.out, bl⟩)
                        ·skip
                         refine box_step ?hg (N := 9) ?hd (cs := #[.bool false, .slice none 0 0, .slice none 0 0]) (t := 26) ?hr ?_; (case hd => rfl); (case hg => rfl); (case hr => first | (go_simp; done) | (go_simp; rfl))
                         intro gb434 hg w88 hbox hb
                         have BK434 := Aside0.mk hbox
                         have GW434 := hz HB hg
                         have GE434 := hz HB hg
                         have NB413_434 := nl BK413 hg
                         have NB434_413 := ng BK413 hg
                         have NB414_434 := nl BK414 hg
                         have NB434_414 := ng BK414 hg
                         replace HO_5 := Aside0.mk (Kd.N_below (Kd.N_elderB HO_5.out gb434 (Nat.le_of_eq hg.symm)) hb)
                         replace HO_414001 := rb HO_414001 hb
                         replace HO_414002 := qb HO_414002 hb
                         replace HO_415001 := rb HO_415001 hb
                         replace HO_415002 := qb HO_415002 hb
                         replace HO430 := rb HO430 hb
                         replace BK413 := kb BK413 hb
                         replace BK414 := kb BK414 hb
                         replace HB := hs HB hb
                         clear hb hbox hg
                         refine hK.out _ _ ⟨(blk_cell BK414.out 0).trans rfl, (blk_cell BK414.out 1).trans rfl, (blk_cell BK414.out 2).trans rfl⟩ (fun hHeld => ?_)
                         clear hK K
                         refine no 9 ?_
                         exact norm_ (by first | (simp only [putAll, Act.put, List.setIfInBounds_toArray, List.set_cons_zero, List.set_cons_succ]; done) | (simp only [putAll, Act.put, List.setIfInBounds_toArray, List.set_cons_zero, List.set_cons_succ]; rfl)) (hJ4_9 (v429, gb434) _ ⟨hHeld, HO430.out, HO_414001.out, HO_414002.out, HO_415001.out, HO_415002.out, (Kd.N_mono HO_5.out (fun _ hk => ⟨hk.1.1, ⟨hk.1.2.1, ⟨hk.1.2.2.1, ⟨hk.1.2.2.2.1, ⟨hk.1.2.2.2.2.1, ⟨hk.1.2.2.2.2.2.1, ⟨hk.1.2.2.2.2.2.2, hk.2⟩⟩⟩⟩⟩⟩⟩)), BK413.out, BK414.out, BK434.out, GW434.out, GE434.out, NB413_434.out, NB434_413.out, NB414_434.out, NB434_414.out, bl⟩)
                      ·skip
                       rintro v423 w87 ⟨hS_, h0_, h1_, h2_, h3_, h4_, h5_, h6_, h7_, h8_⟩
                       have n0_ : Aside0 (Kd.R (Kd.int .i64) 3 w87 w.heap.size (fun k_ => so k_ Ao14 t400 co14 ∧ so k_ Ao15 t403 co15 ∧ so k_ Ao17 t407 co17 ∧ so k_ Ao18 t410 co18) v423 y422) := ⟨h0_⟩
                       have n1_ : Aside0 (Kd.R (Kd.int .i64) 3 w87 w.heap.size (fun k_ => some k_ ≠ (v423 : Value).ownBlock ∧ so k_ Ao15 t403 co15 ∧ so k_ Ao17 t407 co17 ∧ so k_ Ao18 t410 co18) (.slice Ao14 t400.length co14) t400) := ⟨h1_⟩
                       have n2_ : Aside0 (Kd.Q (Kd.int .i64) 3 w87 w.heap.size (fun k_ => some k_ ≠ (v423 : Value).ownBlock ∧ so k_ Ao14 t400 co14 ∧ so k_ Ao17 t407 co17 ∧ so k_ Ao18 t410 co18) (.slice Ao15 t403.length co15) t403) := ⟨h2_⟩
                       have n3_ : Aside0 (Kd.R (Kd.int .i64) 3 w87 w.heap.size (fun k_ => some k_ ≠ (v423 : Value).ownBlock ∧ so k_ Ao14 t400 co14 ∧ so k_ Ao15 t403 co15 ∧ so k_ Ao18 t410 co18) (.slice Ao17 t407.length co17) t407) := ⟨h3_⟩
                       have n4_ : Aside0 (Kd.Q (Kd.int .i64) 3 w87 w.heap.size (fun k_ => some k_ ≠ (v423 : Value).ownBlock ∧ so k_ Ao14 t400 co14 ∧ so k_ Ao15 t403 co15 ∧ so k_ Ao17 t407 co17) (.slice Ao18 t410.length co18) t410) := ⟨h4_⟩
                       have n5_ : Aside0 (Kd.N k48 48 w87 w.heap.size (fun k_ => some k_ ≠ (v423 : Value).ownBlock ∧ so k_ Ao14 t400 co14 ∧ so k_ Ao15 t403 co15 ∧ so k_ Ao17 t407 co17 ∧ so k_ Ao18 t410 co18 ∧ k_ ≠ gb413 ∧ k_ ≠ gb414) (.slice Ao19 t396.length co19) t396) := ⟨h5_⟩
                       have n6_ : Aside0 (w87.heap[gb413]? = some (.cells #[.bool t399, .slice Ao14 t400.length co14, .slice Ao15 t403.length co15] 26 (0, 0))) := ⟨h6_⟩
                       have n7_ : Aside0 (w87.heap[gb414]? = some (.cells #[.bool t406, .slice Ao17 t407.length co17, .slice Ao18 t410.length co18] 26 (0, 0))) := ⟨h7_⟩
                       have n8_ : Aside0 (Below w.heap.size w w87) := ⟨h8_⟩
                       clear HO_5
                       clear HO_414001
                       clear HO_414002
                       clear HO_415001
                       clear HO_415002
                       clear BK413
                       clear BK414
                       clear HB
                       clear h0_ h1_ h2_ h3_ h4_ h5_ h6_ h7_ h8_
                       have HO424 := n0_
                       have HO_414001 := n1_
                       have HO_414002 := n2_
                       have HO_415001 := n3_
                       have HO_415002 := n4_
                       have HO_5 := n5_
                       have BK413 := n6_
                       have BK414 := n7_
                       have HB := n8_
                       clear n0_ n1_ n2_ n3_ n4_ n5_ n6_ n7_ n8_
                       have hHeld : w87.cell? ⟨gb414, 0, none⟩ = some (.bool t406) ∧ w87.cell? ⟨gb414, 1, none⟩ = some (.slice Ao17 t407.length co17) ∧ w87.cell? ⟨gb414, 2, none⟩ = some (.slice Ao18 t410.length co18) := hS_
                       refine norm_ (a' := ?_) ?_ ?_
                       rotate_left
                       ·simp only [putAll, Act.put, List.setIfInBounds_toArray, List.set_cons_zero, List.set_cons_succ]
                        rfl
                       refine three_ (i := 3) (j := 4) (k := 9) (Ni := some 71) (Nj := some 72) (Nk := some 9) #[true, true, true, true, false, true, true, false, false, false, false] #[true, true, true, false, true, true, true, false, false, false, false] #[true, true, true, false, false, true, true, false, false, true, false] rfl rfl rfl rfl rfl rfl (three_of HT_.out (by kernel_rfl)) (by decide) (by decide) (by decide) (fun K hK => ?_) (fun K hK => ?_) (fun K hK => ?_)
                       ·skip
                        refine Kd.R_append_rows_step (Kd.int .i64) (w0 := w) w.heap.size (by rfl) (.tmp 68) (.tmp 70) 24 3 (.int .i64 0) 8 rfl Try.underlying24 info3 rfl (by decide) (by omega) v423 y422 t407 _ _ _ (fun k_ => so k_ Ao14 t400 co14 ∧ so k_ Ao15 t403 co15 ∧ so k_ Ao17 t407 co17 ∧ so k_ Ao18 t410 co18) (fun _ => False) rfl rfl ?aO ?aR (fun _ _ h => h) (fun _ h => h.elim) ?aF ?aB ?aS ?aL ?_
                        (case aR => exact (Kd.R_reads' HO_415001.out).2.2)
                        (case aB => exact bl)
                        (case aF => exact (fun k_ hk => ⟨Kd.fresh' (Kd.R_lt HO_414001.out) k_ hk, Kd.fresh' (Kd.Q_lt HO_414002.out) k_ hk, Kd.fresh' (Kd.R_lt HO_415001.out) k_ hk, Kd.fresh' (Kd.Q_lt HO_415002.out) k_ hk⟩))
                        (case aO => exact HO424.out)
                        (case aS => exact (below_size bl))
                        (case aL => have := LMc73.out; omega)
                        intro v426 w88 ho hb hg hat
                        rw [← Ny425.out] at ho
                        have n0_ := Aside0.mk (Kd.N_afterv (ok := (fun k_ => so k_ Ao14 t400 co14 ∧ so k_ Ao15 t403 co15 ∧ so k_ Ao17 t407 co17 ∧ so k_ Ao18 t410 co18 ∧ k_ ≠ gb413 ∧ k_ ≠ gb414)) (Kd.N_mono HO_5.out (fun _ hk => ⟨⟨hk.2.1, ⟨hk.2.2.1, ⟨hk.2.2.2.1, ⟨hk.2.2.2.2.1, ⟨hk.2.2.2.2.2.1, hk.2.2.2.2.2.2⟩⟩⟩⟩⟩, hk.1⟩)) hg hat)
                        have n1_ := Aside0.mk (Kd.R_after (ok := (fun k_ => so k_ Ao15 t403 co15 ∧ so k_ Ao17 t407 co17 ∧ so k_ Ao18 t410 co18)) (Kd.R_mono HO_414001.out (fun _ hk => ⟨⟨hk.2.1, ⟨hk.2.2.1, hk.2.2.2⟩⟩, hk.1⟩)) hg hat)
                        have n2_ := Aside0.mk (Kd.Q_after (ok := (fun k_ => so k_ Ao14 t400 co14 ∧ so k_ Ao17 t407 co17 ∧ so k_ Ao18 t410 co18)) (Kd.Q_mono HO_414002.out (fun _ hk => ⟨⟨hk.2.1, ⟨hk.2.2.1, hk.2.2.2⟩⟩, hk.1⟩)) hg hat)
                        have n3_ := Aside0.mk (Kd.R_after (ok := (fun k_ => so k_ Ao14 t400 co14 ∧ so k_ Ao15 t403 co15 ∧ so k_ Ao18 t410 co18)) (Kd.R_mono HO_415001.out (fun _ hk => ⟨⟨hk.2.1, ⟨hk.2.2.1, hk.2.2.2⟩⟩, hk.1⟩)) hg hat)
                        have n4_ := Aside0.mk (Kd.Q_after (ok := (fun k_ => so k_ Ao14 t400 co14 ∧ so k_ Ao15 t403 co15 ∧ so k_ Ao17 t407 co17)) (Kd.Q_mono HO_415002.out (fun _ hk => ⟨⟨hk.2.1, ⟨hk.2.2.1, hk.2.2.2⟩⟩, hk.1⟩)) hg hat)
                        have n5_ := Aside0.mk (blk_grown (g := gb413) (o := .cells #[.bool t399, .slice Ao14 t400.length co14, .slice Ao15 t403.length co15] 26 (0, 0)) BK413.out hg (Kd.R_ne HO424.out BK413.out (by decide)))
                        have n6_ := Aside0.mk (blk_grown (g := gb414) (o := .cells #[.bool t406, .slice Ao17 t407.length co17, .slice Ao18 t410.length co18] 26 (0, 0)) BK414.out hg (Kd.R_ne HO424.out BK414.out (by decide)))
                        have n7_ := Aside0.mk (hb)
                        have n8_ := Aside0.mk (ho)
                        clear HO_5
                        clear HO_414001
                        clear HO_414002
                        clear HO_415001
                        clear HO_415002
                        clear BK413
                        clear BK414
                        clear HB
                        clear HO424
                        have HO_5 := n0_
                        have HO_414001 := n1_
                        have HO_414002 := n2_
                        have HO_415001 := n3_
                        have HO_415002 := n4_
                        have BK413 := n5_
                        have BK414 := n6_
                        have HB := n7_
                        have HO427 := n8_
                        clear n0_ n1_ n2_ n3_ n4_ n5_ n6_ n7_ n8_
                        clear ho hb hg hat
                        refine hK.out _ _ ⟨(blk_cell BK414.out 0).trans rfl, (blk_cell BK414.out 1).trans rfl, (blk_cell BK414.out 2).trans rfl⟩ (fun hHeld => ?_)
                        clear hK K
                        refine no 71 ?_
                        exact norm_ (by first | (simp only [putAll, Act.put, List.setIfInBounds_toArray, List.set_cons_zero, List.set_cons_succ]; done) | (simp only [putAll, Act.put, List.setIfInBounds_toArray, List.set_cons_zero, List.set_cons_succ]; rfl)) (hJ0_3 (v423, v426) _ ⟨hHeld, HO427.out, (Kd.R_mono HO_414001.out (fun _ hk => ⟨hk.2, ⟨hk.1.1, ⟨hk.1.2.1, hk.1.2.2⟩⟩⟩)), (Kd.Q_mono HO_414002.out (fun _ hk => ⟨hk.2, ⟨hk.1.1, ⟨hk.1.2.1, hk.1.2.2⟩⟩⟩)), (Kd.R_mono HO_415001.out (fun _ hk => ⟨hk.2, ⟨hk.1.1, ⟨hk.1.2.1, hk.1.2.2⟩⟩⟩)), (Kd.Q_mono HO_415002.out (fun _ hk => ⟨hk.2, ⟨hk.1.1, ⟨hk.1.2.1, hk.1.2.2⟩⟩⟩)), (Kd.N_mono HO_5.out (fun _ hk => ⟨hk.2, ⟨hk.1.1, ⟨hk.1.2.1, ⟨hk.1.2.2.1, ⟨hk.1.2.2.2.1, ⟨hk.1.2.2.2.2.1, hk.1.2.2.2.2.2⟩⟩⟩⟩⟩⟩)), BK413.out, BK414.out, bl⟩)
                       ·skip
                        refine Kd.R_lit_step (Kd.int .i64) _ 3 ?hg (N := 72) ?hd (xs := ([] : List Int)) (inner := []) (ok := fun _ => True) (okp := fun _ => True) ?hr ?hp (fun _ hk => hk) trivial (Below.refl _ _) (Nat.le_refl _) (by simp) ?_; (case hd => rfl); (case hg => rfl); (case hr => first | (go_simp; done) | (go_simp; rfl)); (case hp => exact (Reps.none _ _))
                        intro v429 w88 ho89 hb hg_ hnew_
                        clear hg_ hnew_
                        (first | rw [← Ny428.out] at ho89 | (simp only [Int.reduceToNat] at ho89; rw [← Ny428.out] at ho89))
                        have HO430 := Aside0.mk (Kd.R_lower (Kd.R_new' (Kd.R_new' (Kd.R_new' (Kd.R_new' (Kd.R_new' ho89 (Kd.R_lt HO_414001.out)) (Kd.Q_lt HO_414002.out)) (Kd.R_lt HO_415001.out)) (Kd.Q_lt HO_415002.out)) (Kd.R_lt HO424.out)) (below_size bl))
                        replace HO_5 := Aside0.mk (Kd.N_elder' HO_5.out (Kd.R_base ho89) hb)
                        replace HO_414001 := Aside0.mk (Kd.R_elder' HO_414001.out (Kd.R_base ho89) hb)
                        replace HO_414002 := Aside0.mk (Kd.Q_elder' HO_414002.out (Kd.R_base ho89) hb)
                        replace HO_415001 := Aside0.mk (Kd.R_elder' HO_415001.out (Kd.R_base ho89) hb)
                        replace HO_415002 := Aside0.mk (Kd.Q_elder' HO_415002.out (Kd.R_base ho89) hb)
                        replace HO424 := Aside0.mk (Kd.R_elder' HO424.out (Kd.R_base ho89) hb)
                        replace BK413 := kb BK413 hb
                        replace BK414 := kb BK414 hb
                        replace HB := hs HB hb
                        clear hb ho89
                        refine hK.out _ _ ⟨(blk_cell BK414.out 0).trans rfl, (blk_cell BK414.out 1).trans rfl, (blk_cell BK414.out 2).trans rfl⟩ (fun hHeld => ?_)
                        clear hK K
                        refine no 72 ?_
                        exact norm_ (by first | (simp only [putAll, Act.put, List.setIfInBounds_toArray, List.set_cons_zero, List.set_cons_succ]; done) | (simp only [putAll, Act.put, List.setIfInBounds_toArray, List.set_cons_zero, List.set_cons_succ]; rfl)) (hJ0_4 (v423, v429) _ ⟨hHeld, (Kd.R_mono HO424.out (fun _ hk => ⟨hk.2, ⟨hk.1.1, ⟨hk.1.2.1, ⟨hk.1.2.2.1, hk.1.2.2.2⟩⟩⟩⟩)), (Kd.R_mono HO430.out (fun _ hk => ⟨hk.2, ⟨hk.1.1.1.1.2, ⟨hk.1.1.1.2, ⟨hk.1.1.2, hk.1.2⟩⟩⟩⟩)), (Kd.R_mono HO_414001.out (fun _ hk => ⟨hk.1.1, ⟨hk.2, ⟨hk.1.2.1, ⟨hk.1.2.2.1, hk.1.2.2.2⟩⟩⟩⟩)), (Kd.Q_mono HO_414002.out (fun _ hk => ⟨hk.1.1, ⟨hk.2, ⟨hk.1.2.1, ⟨hk.1.2.2.1, hk.1.2.2.2⟩⟩⟩⟩)), (Kd.R_mono HO_415001.out (fun _ hk => ⟨hk.1.1, ⟨hk.2, ⟨hk.1.2.1, ⟨hk.1.2.2.1, hk.1.2.2.2⟩⟩⟩⟩)), (Kd.Q_mono HO_415002.out (fun _ hk => ⟨hk.1.1, ⟨hk.2, ⟨hk.1.2.1, ⟨hk.1.2.2.1, hk.1.2.2.2⟩⟩⟩⟩)), (Kd.N_mono HO_5.out (fun _ hk => ⟨hk.1.1, ⟨hk.2, ⟨hk.1.2.1, ⟨hk.1.2.2.1, ⟨hk.1.2.2.2.1, ⟨hk.1.2.2.2.2.1, ⟨hk.1.2.2.2.2.2.1, hk.1.2.2.2.2.2.2⟩⟩⟩⟩⟩⟩⟩)), BK413.out, BK414.out, bl⟩)
                       ·skip
                        refine box_step ?hg (N := 9) ?hd (cs := #[.bool false, .slice none 0 0, .slice none 0 0]) (t := 26) ?hr ?_; (case hd => rfl); (case hg => rfl); (case hr => first | (go_simp; done) | (go_simp; rfl))
                        intro gb434 hg w88 hbox hb
                        have BK434 := Aside0.mk hbox
                        have GW434 := hz HB hg
                        have GE434 := hz HB hg
                        have NB413_434 := nl BK413 hg
                        have NB434_413 := ng BK413 hg
                        have NB414_434 := nl BK414 hg
                        have NB434_414 := ng BK414 hg
                        replace HO_5 := Aside0.mk (Kd.N_below (Kd.N_elderB HO_5.out gb434 (Nat.le_of_eq hg.symm)) hb)
                        replace HO_414001 := rb HO_414001 hb
                        replace HO_414002 := qb HO_414002 hb
                        replace HO_415001 := rb HO_415001 hb
                        replace HO_415002 := qb HO_415002 hb
                        replace HO424 := rb HO424 hb
                        replace BK413 := kb BK413 hb
                        replace BK414 := kb BK414 hb
                        replace HB := hs HB hb
                        clear hb hbox hg
                        refine hK.out _ _ ⟨(blk_cell BK414.out 0).trans rfl, (blk_cell BK414.out 1).trans rfl, (blk_cell BK414.out 2).trans rfl⟩ (fun hHeld => ?_)
                        clear hK K
                        refine no 9 ?_
                        exact norm_ (by first | (simp only [putAll, Act.put, List.setIfInBounds_toArray, List.set_cons_zero, List.set_cons_succ]; done) | (simp only [putAll, Act.put, List.setIfInBounds_toArray, List.set_cons_zero, List.set_cons_succ]; rfl)) (hJ0_9 (v423, gb434) _ ⟨hHeld, HO424.out, HO_414001.out, HO_414002.out, HO_415001.out, HO_415002.out, (Kd.N_mono HO_5.out (fun _ hk => ⟨hk.1.1, ⟨hk.1.2.1, ⟨hk.1.2.2.1, ⟨hk.1.2.2.2.1, ⟨hk.1.2.2.2.2.1, ⟨hk.1.2.2.2.2.2.1, ⟨hk.1.2.2.2.2.2.2, hk.2⟩⟩⟩⟩⟩⟩⟩)), BK413.out, BK414.out, BK434.out, GW434.out, GE434.out, NB413_434.out, NB434_413.out, NB414_434.out, NB434_414.out, bl⟩)
                     ·skip
                      rintro ⟨v429, gb434⟩ w88 ⟨hS_, h0_, h1_, h2_, h3_, h4_, h5_, h6_, h7_, h8_, h9_, h10_, h11_, h12_, h13_, h14_, h15_⟩
                      have n0_ : Aside0 (Kd.R (Kd.int .i64) 3 w88 w.heap.size (fun k_ => so k_ Ao14 t400 co14 ∧ so k_ Ao15 t403 co15 ∧ so k_ Ao17 t407 co17 ∧ so k_ Ao18 t410 co18) v429 y428) := ⟨h0_⟩
                      have n1_ : Aside0 (Kd.R (Kd.int .i64) 3 w88 w.heap.size (fun k_ => some k_ ≠ (v429 : Value).ownBlock ∧ so k_ Ao15 t403 co15 ∧ so k_ Ao17 t407 co17 ∧ so k_ Ao18 t410 co18) (.slice Ao14 t400.length co14) t400) := ⟨h1_⟩
                      have n2_ : Aside0 (Kd.Q (Kd.int .i64) 3 w88 w.heap.size (fun k_ => some k_ ≠ (v429 : Value).ownBlock ∧ so k_ Ao14 t400 co14 ∧ so k_ Ao17 t407 co17 ∧ so k_ Ao18 t410 co18) (.slice Ao15 t403.length co15) t403) := ⟨h2_⟩
                      have n3_ : Aside0 (Kd.R (Kd.int .i64) 3 w88 w.heap.size (fun k_ => some k_ ≠ (v429 : Value).ownBlock ∧ so k_ Ao14 t400 co14 ∧ so k_ Ao15 t403 co15 ∧ so k_ Ao18 t410 co18) (.slice Ao17 t407.length co17) t407) := ⟨h3_⟩
                      have n4_ : Aside0 (Kd.Q (Kd.int .i64) 3 w88 w.heap.size (fun k_ => some k_ ≠ (v429 : Value).ownBlock ∧ so k_ Ao14 t400 co14 ∧ so k_ Ao15 t403 co15 ∧ so k_ Ao17 t407 co17) (.slice Ao18 t410.length co18) t410) := ⟨h4_⟩
                      have n5_ : Aside0 (Kd.N k48 48 w88 w.heap.size (fun k_ => some k_ ≠ (v429 : Value).ownBlock ∧ so k_ Ao14 t400 co14 ∧ so k_ Ao15 t403 co15 ∧ so k_ Ao17 t407 co17 ∧ so k_ Ao18 t410 co18 ∧ k_ ≠ gb413 ∧ k_ ≠ gb414 ∧ k_ ≠ gb434) (.slice Ao19 t396.length co19) t396) := ⟨h5_⟩
                      have n6_ : Aside0 (w88.heap[gb413]? = some (.cells #[.bool t399, .slice Ao14 t400.length co14, .slice Ao15 t403.length co15] 26 (0, 0))) := ⟨h6_⟩
                      have n7_ : Aside0 (w88.heap[gb414]? = some (.cells #[.bool t406, .slice Ao17 t407.length co17, .slice Ao18 t410.length co18] 26 (0, 0))) := ⟨h7_⟩
                      have n8_ : Aside0 (w88.heap[gb434]? = some (.cells #[.bool false, .slice none 0 0, .slice none 0 0] 26 (0, 0))) := ⟨h8_⟩
                      have n9_ : Aside0 (w.heap.size ≤ gb434) := ⟨h9_⟩
                      have n10_ : Aside0 (w.heap.size ≤ gb434) := ⟨h10_⟩
                      have n11_ : Aside0 (gb413 ≠ gb434) := ⟨h11_⟩
                      have n12_ : Aside0 (gb434 ≠ gb413) := ⟨h12_⟩
                      have n13_ : Aside0 (gb414 ≠ gb434) := ⟨h13_⟩
                      have n14_ : Aside0 (gb434 ≠ gb414) := ⟨h14_⟩
                      have n15_ : Aside0 (Below w.heap.size w w88) := ⟨h15_⟩
                      clear HO_5
                      clear HO_414001
                      clear HO_414002
                      clear HO_415001
                      clear HO_415002
                      clear BK413
                      clear BK414
                      clear HB
                      clear h0_ h1_ h2_ h3_ h4_ h5_ h6_ h7_ h8_ h9_ h10_ h11_ h12_ h13_ h14_ h15_
                      have HO430 := n0_
                      have HO_414001 := n1_
                      have HO_414002 := n2_
                      have HO_415001 := n3_
                      have HO_415002 := n4_
                      have HO_5 := n5_
                      have BK413 := n6_
                      have BK414 := n7_
                      have BK434 := n8_
                      have GW434 := n9_
                      have GE434 := n10_
                      have NB413_434 := n11_
                      have NB434_413 := n12_
                      have NB414_434 := n13_
                      have NB434_414 := n14_
                      have HB := n15_
                      clear n0_ n1_ n2_ n3_ n4_ n5_ n6_ n7_ n8_ n9_ n10_ n11_ n12_ n13_ n14_ n15_
                      have hHeld : w88.cell? ⟨gb414, 0, none⟩ = some (.bool t406) ∧ w88.cell? ⟨gb414, 1, none⟩ = some (.slice Ao17 t407.length co17) ∧ w88.cell? ⟨gb414, 2, none⟩ = some (.slice Ao18 t410.length co18) := hS_
                      refine norm_ (a' := ?_) ?_ ?_
                      rotate_left
                      ·simp only [putAll, Act.put, List.setIfInBounds_toArray, List.set_cons_zero, List.set_cons_succ]
                       rfl
                      refine one_ (i := 0) (N := some 68) #[true, true, true, false, true, true, true, false, false, true, false] rfl rfl (one_of HT_.out (by kernel_rfl)) (by decide) (fun K hK => ?_)
                      refine Kd.R_lit_step (Kd.int .i64) _ 3 ?hg (N := 68) ?hd (xs := ([] : List Int)) (inner := []) (ok := fun _ => True) (okp := fun _ => True) ?hr ?hp (fun _ hk => hk) trivial (Below.refl _ _) (Nat.le_refl _) (by simp) ?_; (case hd => rfl); (case hg => rfl); (case hr => first | (go_simp; done) | (go_simp; rfl)); (case hp => exact (Reps.none _ _))
                      intro v423 w89 ho90 hb hg_ hnew_
                      clear hg_ hnew_
                      (first | rw [← Ny422.out] at ho90 | (simp only [Int.reduceToNat] at ho90; rw [← Ny422.out] at ho90))
                      have HO424 := Aside0.mk (Kd.R_lower (Kd.R_new' (Kd.R_new' (Kd.R_new' (Kd.R_new' (Kd.R_new' ho90 (Kd.R_lt HO_414001.out)) (Kd.Q_lt HO_414002.out)) (Kd.R_lt HO_415001.out)) (Kd.Q_lt HO_415002.out)) (Kd.R_lt HO430.out)) (below_size bl))
                      replace HO_5 := Aside0.mk (Kd.N_elder' HO_5.out (Kd.R_base ho90) hb)
                      replace HO_414001 := Aside0.mk (Kd.R_elder' HO_414001.out (Kd.R_base ho90) hb)
                      replace HO_414002 := Aside0.mk (Kd.Q_elder' HO_414002.out (Kd.R_base ho90) hb)
                      replace HO_415001 := Aside0.mk (Kd.R_elder' HO_415001.out (Kd.R_base ho90) hb)
                      replace HO_415002 := Aside0.mk (Kd.Q_elder' HO_415002.out (Kd.R_base ho90) hb)
                      replace HO430 := Aside0.mk (Kd.R_elder' HO430.out (Kd.R_base ho90) hb)
                      replace BK413 := kb BK413 hb
                      replace BK414 := kb BK414 hb
                      replace BK434 := kb BK434 hb
                      replace HB := hs HB hb
                      clear hb ho90
                      refine hK.out _ _ ⟨(blk_cell BK414.out 0).trans rfl, (blk_cell BK414.out 1).trans rfl, (blk_cell BK414.out 2).trans rfl⟩ (fun hHeld => ?_)
                      clear hK K
                      refine no 68 ?_
                      exact norm_ (by first | (simp only [putAll, Act.put, List.setIfInBounds_toArray, List.set_cons_zero, List.set_cons_succ]; done) | (simp only [putAll, Act.put, List.setIfInBounds_toArray, List.set_cons_zero, List.set_cons_succ]; rfl)) (hJ0_4_9 (v423, v429, gb434) _ ⟨hHeld, (Kd.R_mono HO424.out (fun _ hk => ⟨hk.2, ⟨hk.1.1.1.1.2, ⟨hk.1.1.1.2, ⟨hk.1.1.2, hk.1.2⟩⟩⟩⟩)), (Kd.R_mono HO430.out (fun _ hk => ⟨hk.2, ⟨hk.1.1, ⟨hk.1.2.1, ⟨hk.1.2.2.1, hk.1.2.2.2⟩⟩⟩⟩)), (Kd.R_mono HO_414001.out (fun _ hk => ⟨hk.2, ⟨hk.1.1, ⟨hk.1.2.1, ⟨hk.1.2.2.1, hk.1.2.2.2⟩⟩⟩⟩)), (Kd.Q_mono HO_414002.out (fun _ hk => ⟨hk.2, ⟨hk.1.1, ⟨hk.1.2.1, ⟨hk.1.2.2.1, hk.1.2.2.2⟩⟩⟩⟩)), (Kd.R_mono HO_415001.out (fun _ hk => ⟨hk.2, ⟨hk.1.1, ⟨hk.1.2.1, ⟨hk.1.2.2.1, hk.1.2.2.2⟩⟩⟩⟩)), (Kd.Q_mono HO_415002.out (fun _ hk => ⟨hk.2, ⟨hk.1.1, ⟨hk.1.2.1, ⟨hk.1.2.2.1, hk.1.2.2.2⟩⟩⟩⟩)), (Kd.N_mono HO_5.out (fun _ hk => ⟨hk.2, ⟨hk.1.1, ⟨hk.1.2.1, ⟨hk.1.2.2.1, ⟨hk.1.2.2.2.1, ⟨hk.1.2.2.2.2.1, ⟨hk.1.2.2.2.2.2.1, ⟨hk.1.2.2.2.2.2.2.1, hk.1.2.2.2.2.2.2.2⟩⟩⟩⟩⟩⟩⟩⟩)), BK413.out, BK414.out, BK434.out, GW434.out, GE434.out, NB413_434.out, NB434_413.out, NB414_434.out, NB434_414.out, bl⟩)
                    ·skip
                     rintro ⟨v423, gb434⟩ w88 ⟨hS_, h0_, h1_, h2_, h3_, h4_, h5_, h6_, h7_, h8_, h9_, h10_, h11_, h12_, h13_, h14_, h15_⟩
                     have n0_ : Aside0 (Kd.R (Kd.int .i64) 3 w88 w.heap.size (fun k_ => so k_ Ao14 t400 co14 ∧ so k_ Ao15 t403 co15 ∧ so k_ Ao17 t407 co17 ∧ so k_ Ao18 t410 co18) v423 y422) := ⟨h0_⟩
                     have n1_ : Aside0 (Kd.R (Kd.int .i64) 3 w88 w.heap.size (fun k_ => some k_ ≠ (v423 : Value).ownBlock ∧ so k_ Ao15 t403 co15 ∧ so k_ Ao17 t407 co17 ∧ so k_ Ao18 t410 co18) (.slice Ao14 t400.length co14) t400) := ⟨h1_⟩
                     have n2_ : Aside0 (Kd.Q (Kd.int .i64) 3 w88 w.heap.size (fun k_ => some k_ ≠ (v423 : Value).ownBlock ∧ so k_ Ao14 t400 co14 ∧ so k_ Ao17 t407 co17 ∧ so k_ Ao18 t410 co18) (.slice Ao15 t403.length co15) t403) := ⟨h2_⟩
                     have n3_ : Aside0 (Kd.R (Kd.int .i64) 3 w88 w.heap.size (fun k_ => some k_ ≠ (v423 : Value).ownBlock ∧ so k_ Ao14 t400 co14 ∧ so k_ Ao15 t403 co15 ∧ so k_ Ao18 t410 co18) (.slice Ao17 t407.length co17) t407) := ⟨h3_⟩
                     have n4_ : Aside0 (Kd.Q (Kd.int .i64) 3 w88 w.heap.size (fun k_ => some k_ ≠ (v423 : Value).ownBlock ∧ so k_ Ao14 t400 co14 ∧ so k_ Ao15 t403 co15 ∧ so k_ Ao17 t407 co17) (.slice Ao18 t410.length co18) t410) := ⟨h4_⟩
                     have n5_ : Aside0 (Kd.N k48 48 w88 w.heap.size (fun k_ => some k_ ≠ (v423 : Value).ownBlock ∧ so k_ Ao14 t400 co14 ∧ so k_ Ao15 t403 co15 ∧ so k_ Ao17 t407 co17 ∧ so k_ Ao18 t410 co18 ∧ k_ ≠ gb413 ∧ k_ ≠ gb414 ∧ k_ ≠ gb434) (.slice Ao19 t396.length co19) t396) := ⟨h5_⟩
                     have n6_ : Aside0 (w88.heap[gb413]? = some (.cells #[.bool t399, .slice Ao14 t400.length co14, .slice Ao15 t403.length co15] 26 (0, 0))) := ⟨h6_⟩
                     have n7_ : Aside0 (w88.heap[gb414]? = some (.cells #[.bool t406, .slice Ao17 t407.length co17, .slice Ao18 t410.length co18] 26 (0, 0))) := ⟨h7_⟩
                     have n8_ : Aside0 (w88.heap[gb434]? = some (.cells #[.bool false, .slice none 0 0, .slice none 0 0] 26 (0, 0))) := ⟨h8_⟩
                     have n9_ : Aside0 (w.heap.size ≤ gb434) := ⟨h9_⟩
                     have n10_ : Aside0 (w.heap.size ≤ gb434) := ⟨h10_⟩
                     have n11_ : Aside0 (gb413 ≠ gb434) := ⟨h11_⟩
                     have n12_ : Aside0 (gb434 ≠ gb413) := ⟨h12_⟩
                     have n13_ : Aside0 (gb414 ≠ gb434) := ⟨h13_⟩
                     have n14_ : Aside0 (gb434 ≠ gb414) := ⟨h14_⟩
                     have n15_ : Aside0 (Below w.heap.size w w88) := ⟨h15_⟩
                     clear HO_5
                     clear HO_414001
                     clear HO_414002
                     clear HO_415001
                     clear HO_415002
                     clear BK413
                     clear BK414
                     clear HB
                     clear h0_ h1_ h2_ h3_ h4_ h5_ h6_ h7_ h8_ h9_ h10_ h11_ h12_ h13_ h14_ h15_
                     have HO424 := n0_
                     have HO_414001 := n1_
                     have HO_414002 := n2_
                     have HO_415001 := n3_
                     have HO_415002 := n4_
                     have HO_5 := n5_
                     have BK413 := n6_
                     have BK414 := n7_
                     have BK434 := n8_
                     have GW434 := n9_
                     have GE434 := n10_
                     have NB413_434 := n11_
                     have NB434_413 := n12_
                     have NB414_434 := n13_
                     have NB434_414 := n14_
                     have HB := n15_
                     clear n0_ n1_ n2_ n3_ n4_ n5_ n6_ n7_ n8_ n9_ n10_ n11_ n12_ n13_ n14_ n15_
                     have hHeld : w88.cell? ⟨gb414, 0, none⟩ = some (.bool t406) ∧ w88.cell? ⟨gb414, 1, none⟩ = some (.slice Ao17 t407.length co17) ∧ w88.cell? ⟨gb414, 2, none⟩ = some (.slice Ao18 t410.length co18) := hS_
                     refine norm_ (a' := ?_) ?_ ?_
                     rotate_left
                     ·simp only [putAll, Act.put, List.setIfInBounds_toArray, List.set_cons_zero, List.set_cons_succ]
                      rfl
                     refine two_ (i := 3) (j := 4) (Ni := some 71) (Nj := some 72) #[true, true, true, true, false, true, true, false, false, true, false] #[true, true, true, false, true, true, true, false, false, true, false] rfl rfl rfl rfl (two_of HT_.out (by kernel_rfl)) (by decide) (by decide) (fun K hK => ?_) (fun K hK => ?_)
                     ·skip
                      refine Kd.R_append_rows_step (Kd.int .i64) (w0 := w) w.heap.size (by rfl) (.tmp 68) (.tmp 70) 24 3 (.int .i64 0) 8 rfl Try.underlying24 info3 rfl (by decide) (by omega) v423 y422 t407 _ _ _ (fun k_ => so k_ Ao14 t400 co14 ∧ so k_ Ao15 t403 co15 ∧ so k_ Ao17 t407 co17 ∧ so k_ Ao18 t410 co18) (fun _ => False) rfl rfl ?aO ?aR (fun _ _ h => h) (fun _ h => h.elim) ?aF ?aB ?aS ?aL ?_
                      (case aR => exact (Kd.R_reads' HO_415001.out).2.2)
                      (case aB => exact bl)
                      (case aF => exact (fun k_ hk => ⟨Kd.fresh' (Kd.R_lt HO_414001.out) k_ hk, Kd.fresh' (Kd.Q_lt HO_414002.out) k_ hk, Kd.fresh' (Kd.R_lt HO_415001.out) k_ hk, Kd.fresh' (Kd.Q_lt HO_415002.out) k_ hk⟩))
                      (case aO => exact HO424.out)
                      (case aS => exact (below_size bl))
                      (case aL => have := LMc73.out; omega)
                      intro v426 w89 ho hb hg hat
                      rw [← Ny425.out] at ho
                      have n0_ := Aside0.mk (Kd.N_afterv (ok := (fun k_ => so k_ Ao14 t400 co14 ∧ so k_ Ao15 t403 co15 ∧ so k_ Ao17 t407 co17 ∧ so k_ Ao18 t410 co18 ∧ k_ ≠ gb413 ∧ k_ ≠ gb414 ∧ k_ ≠ gb434)) (Kd.N_mono HO_5.out (fun _ hk => ⟨⟨hk.2.1, ⟨hk.2.2.1, ⟨hk.2.2.2.1, ⟨hk.2.2.2.2.1, ⟨hk.2.2.2.2.2.1, ⟨hk.2.2.2.2.2.2.1, hk.2.2.2.2.2.2.2⟩⟩⟩⟩⟩⟩, hk.1⟩)) hg hat)
                      have n1_ := Aside0.mk (Kd.R_after (ok := (fun k_ => so k_ Ao15 t403 co15 ∧ so k_ Ao17 t407 co17 ∧ so k_ Ao18 t410 co18)) (Kd.R_mono HO_414001.out (fun _ hk => ⟨⟨hk.2.1, ⟨hk.2.2.1, hk.2.2.2⟩⟩, hk.1⟩)) hg hat)
                      have n2_ := Aside0.mk (Kd.Q_after (ok := (fun k_ => so k_ Ao14 t400 co14 ∧ so k_ Ao17 t407 co17 ∧ so k_ Ao18 t410 co18)) (Kd.Q_mono HO_414002.out (fun _ hk => ⟨⟨hk.2.1, ⟨hk.2.2.1, hk.2.2.2⟩⟩, hk.1⟩)) hg hat)
                      have n3_ := Aside0.mk (Kd.R_after (ok := (fun k_ => so k_ Ao14 t400 co14 ∧ so k_ Ao15 t403 co15 ∧ so k_ Ao18 t410 co18)) (Kd.R_mono HO_415001.out (fun _ hk => ⟨⟨hk.2.1, ⟨hk.2.2.1, hk.2.2.2⟩⟩, hk.1⟩)) hg hat)
                      have n4_ := Aside0.mk (Kd.Q_after (ok := (fun k_ => so k_ Ao14 t400 co14 ∧ so k_ Ao15 t403 co15 ∧ so k_ Ao17 t407 co17)) (Kd.Q_mono HO_415002.out (fun _ hk => ⟨⟨hk.2.1, ⟨hk.2.2.1, hk.2.2.2⟩⟩, hk.1⟩)) hg hat)
                      have n5_ := Aside0.mk (blk_grown (g := gb413) (o := .cells #[.bool t399, .slice Ao14 t400.length co14, .slice Ao15 t403.length co15] 26 (0, 0)) BK413.out hg (Kd.R_ne HO424.out BK413.out (by decide)))
                      have n6_ := Aside0.mk (blk_grown (g := gb414) (o := .cells #[.bool t406, .slice Ao17 t407.length co17, .slice Ao18 t410.length co18] 26 (0, 0)) BK414.out hg (Kd.R_ne HO424.out BK414.out (by decide)))
                      have n7_ := Aside0.mk (blk_grown (g := gb434) (o := .cells #[.bool false, .slice none 0 0, .slice none 0 0] 26 (0, 0)) BK434.out hg (Kd.R_ne HO424.out BK434.out (by decide)))
                      have n8_ := Aside0.mk (hb)
                      have n9_ := Aside0.mk (ho)
                      clear HO_5
                      clear HO_414001
                      clear HO_414002
                      clear HO_415001
                      clear HO_415002
                      clear BK413
                      clear BK414
                      clear BK434
                      clear HB
                      clear HO424
                      have HO_5 := n0_
                      have HO_414001 := n1_
                      have HO_414002 := n2_
                      have HO_415001 := n3_
                      have HO_415002 := n4_
                      have BK413 := n5_
                      have BK414 := n6_
                      have BK434 := n7_
                      have HB := n8_
                      have HO427 := n9_
                      clear n0_ n1_ n2_ n3_ n4_ n5_ n6_ n7_ n8_ n9_
                      clear ho hb hg hat
                      refine hK.out _ _ ⟨(blk_cell BK414.out 0).trans rfl, (blk_cell BK414.out 1).trans rfl, (blk_cell BK414.out 2).trans rfl⟩ (fun hHeld => ?_)
                      clear hK K
                      refine no 71 ?_
                      exact norm_ (by first | (simp only [putAll, Act.put, List.setIfInBounds_toArray, List.set_cons_zero, List.set_cons_succ]; done) | (simp only [putAll, Act.put, List.setIfInBounds_toArray, List.set_cons_zero, List.set_cons_succ]; rfl)) (hJ0_3_9 (v423, v426, gb434) _ ⟨hHeld, HO427.out, (Kd.R_mono HO_414001.out (fun _ hk => ⟨hk.2, ⟨hk.1.1, ⟨hk.1.2.1, hk.1.2.2⟩⟩⟩)), (Kd.Q_mono HO_414002.out (fun _ hk => ⟨hk.2, ⟨hk.1.1, ⟨hk.1.2.1, hk.1.2.2⟩⟩⟩)), (Kd.R_mono HO_415001.out (fun _ hk => ⟨hk.2, ⟨hk.1.1, ⟨hk.1.2.1, hk.1.2.2⟩⟩⟩)), (Kd.Q_mono HO_415002.out (fun _ hk => ⟨hk.2, ⟨hk.1.1, ⟨hk.1.2.1, hk.1.2.2⟩⟩⟩)), (Kd.N_mono HO_5.out (fun _ hk => ⟨hk.2, ⟨hk.1.1, ⟨hk.1.2.1, ⟨hk.1.2.2.1, ⟨hk.1.2.2.2.1, ⟨hk.1.2.2.2.2.1, ⟨hk.1.2.2.2.2.2.1, hk.1.2.2.2.2.2.2⟩⟩⟩⟩⟩⟩⟩)), BK413.out, BK414.out, BK434.out, GW434.out, GE434.out, NB413_434.out, NB434_413.out, NB414_434.out, NB434_414.out, bl⟩)
                     ·skip
                      refine Kd.R_lit_step (Kd.int .i64) _ 3 ?hg (N := 72) ?hd (xs := ([] : List Int)) (inner := []) (ok := fun _ => True) (okp := fun _ => True) ?hr ?hp (fun _ hk => hk) trivial (Below.refl _ _) (Nat.le_refl _) (by simp) ?_; (case hd => rfl); (case hg => rfl); (case hr => first | (go_simp; done) | (go_simp; rfl)); (case hp => exact (Reps.none _ _))
                      intro v429 w89 ho90 hb hg_ hnew_
                      clear hg_ hnew_
                      (first | rw [← Ny428.out] at ho90 | (simp only [Int.reduceToNat] at ho90; rw [← Ny428.out] at ho90))
                      have HO430 := Aside0.mk (Kd.R_lower (Kd.R_new' (Kd.R_new' (Kd.R_new' (Kd.R_new' (Kd.R_new' ho90 (Kd.R_lt HO_414001.out)) (Kd.Q_lt HO_414002.out)) (Kd.R_lt HO_415001.out)) (Kd.Q_lt HO_415002.out)) (Kd.R_lt HO424.out)) (below_size bl))
                      replace HO_5 := Aside0.mk (Kd.N_elder' HO_5.out (Kd.R_base ho90) hb)
                      replace HO_414001 := Aside0.mk (Kd.R_elder' HO_414001.out (Kd.R_base ho90) hb)
                      replace HO_414002 := Aside0.mk (Kd.Q_elder' HO_414002.out (Kd.R_base ho90) hb)
                      replace HO_415001 := Aside0.mk (Kd.R_elder' HO_415001.out (Kd.R_base ho90) hb)
                      replace HO_415002 := Aside0.mk (Kd.Q_elder' HO_415002.out (Kd.R_base ho90) hb)
                      replace HO424 := Aside0.mk (Kd.R_elder' HO424.out (Kd.R_base ho90) hb)
                      replace BK413 := kb BK413 hb
                      replace BK414 := kb BK414 hb
                      replace BK434 := kb BK434 hb
                      replace HB := hs HB hb
                      clear hb ho90
                      refine hK.out _ _ ⟨(blk_cell BK414.out 0).trans rfl, (blk_cell BK414.out 1).trans rfl, (blk_cell BK414.out 2).trans rfl⟩ (fun hHeld => ?_)
                      clear hK K
                      refine no 72 ?_
                      exact norm_ (by first | (simp only [putAll, Act.put, List.setIfInBounds_toArray, List.set_cons_zero, List.set_cons_succ]; done) | (simp only [putAll, Act.put, List.setIfInBounds_toArray, List.set_cons_zero, List.set_cons_succ]; rfl)) (hJ0_4_9 (v423, v429, gb434) _ ⟨hHeld, (Kd.R_mono HO424.out (fun _ hk => ⟨hk.2, ⟨hk.1.1, ⟨hk.1.2.1, ⟨hk.1.2.2.1, hk.1.2.2.2⟩⟩⟩⟩)), (Kd.R_mono HO430.out (fun _ hk => ⟨hk.2, ⟨hk.1.1.1.1.2, ⟨hk.1.1.1.2, ⟨hk.1.1.2, hk.1.2⟩⟩⟩⟩)), (Kd.R_mono HO_414001.out (fun _ hk => ⟨hk.1.1, ⟨hk.2, ⟨hk.1.2.1, ⟨hk.1.2.2.1, hk.1.2.2.2⟩⟩⟩⟩)), (Kd.Q_mono HO_414002.out (fun _ hk => ⟨hk.1.1, ⟨hk.2, ⟨hk.1.2.1, ⟨hk.1.2.2.1, hk.1.2.2.2⟩⟩⟩⟩)), (Kd.R_mono HO_415001.out (fun _ hk => ⟨hk.1.1, ⟨hk.2, ⟨hk.1.2.1, ⟨hk.1.2.2.1, hk.1.2.2.2⟩⟩⟩⟩)), (Kd.Q_mono HO_415002.out (fun _ hk => ⟨hk.1.1, ⟨hk.2, ⟨hk.1.2.1, ⟨hk.1.2.2.1, hk.1.2.2.2⟩⟩⟩⟩)), (Kd.N_mono HO_5.out (fun _ hk => ⟨hk.1.1, ⟨hk.2, ⟨hk.1.2.1, ⟨hk.1.2.2.1, ⟨hk.1.2.2.2.1, ⟨hk.1.2.2.2.2.1, ⟨hk.1.2.2.2.2.2.1, ⟨hk.1.2.2.2.2.2.2.1, hk.1.2.2.2.2.2.2.2⟩⟩⟩⟩⟩⟩⟩⟩)), BK413.out, BK414.out, BK434.out, GW434.out, GE434.out, NB413_434.out, NB434_413.out, NB414_434.out, NB434_414.out, bl⟩)
                   ·skip
                    rintro ⟨v423, v429⟩ w89 ⟨hS_, h0_, h1_, h2_, h3_, h4_, h5_, h6_, h7_, h8_, h9_⟩
                    have n0_ : Aside0 (Kd.R (Kd.int .i64) 3 w89 w.heap.size (fun k_ => some k_ ≠ (v429 : Value).ownBlock ∧ so k_ Ao14 t400 co14 ∧ so k_ Ao15 t403 co15 ∧ so k_ Ao17 t407 co17 ∧ so k_ Ao18 t410 co18) v423 y422) := ⟨h0_⟩
                    have n1_ : Aside0 (Kd.R (Kd.int .i64) 3 w89 w.heap.size (fun k_ => some k_ ≠ (v423 : Value).ownBlock ∧ so k_ Ao14 t400 co14 ∧ so k_ Ao15 t403 co15 ∧ so k_ Ao17 t407 co17 ∧ so k_ Ao18 t410 co18) v429 y428) := ⟨h1_⟩
                    have n2_ : Aside0 (Kd.R (Kd.int .i64) 3 w89 w.heap.size (fun k_ => some k_ ≠ (v423 : Value).ownBlock ∧ some k_ ≠ (v429 : Value).ownBlock ∧ so k_ Ao15 t403 co15 ∧ so k_ Ao17 t407 co17 ∧ so k_ Ao18 t410 co18) (.slice Ao14 t400.length co14) t400) := ⟨h2_⟩
                    have n3_ : Aside0 (Kd.Q (Kd.int .i64) 3 w89 w.heap.size (fun k_ => some k_ ≠ (v423 : Value).ownBlock ∧ some k_ ≠ (v429 : Value).ownBlock ∧ so k_ Ao14 t400 co14 ∧ so k_ Ao17 t407 co17 ∧ so k_ Ao18 t410 co18) (.slice Ao15 t403.length co15) t403) := ⟨h3_⟩
                    have n4_ : Aside0 (Kd.R (Kd.int .i64) 3 w89 w.heap.size (fun k_ => some k_ ≠ (v423 : Value).ownBlock ∧ some k_ ≠ (v429 : Value).ownBlock ∧ so k_ Ao14 t400 co14 ∧ so k_ Ao15 t403 co15 ∧ so k_ Ao18 t410 co18) (.slice Ao17 t407.length co17) t407) := ⟨h4_⟩
                    have n5_ : Aside0 (Kd.Q (Kd.int .i64) 3 w89 w.heap.size (fun k_ => some k_ ≠ (v423 : Value).ownBlock ∧ some k_ ≠ (v429 : Value).ownBlock ∧ so k_ Ao14 t400 co14 ∧ so k_ Ao15 t403 co15 ∧ so k_ Ao17 t407 co17) (.slice Ao18 t410.length co18) t410) := ⟨h5_⟩
                    have n6_ : Aside0 (Kd.N k48 48 w89 w.heap.size (fun k_ => some k_ ≠ (v423 : Value).ownBlock ∧ some k_ ≠ (v429 : Value).ownBlock ∧ so k_ Ao14 t400 co14 ∧ so k_ Ao15 t403 co15 ∧ so k_ Ao17 t407 co17 ∧ so k_ Ao18 t410 co18 ∧ k_ ≠ gb413 ∧ k_ ≠ gb414) (.slice Ao19 t396.length co19) t396) := ⟨h6_⟩
                    have n7_ : Aside0 (w89.heap[gb413]? = some (.cells #[.bool t399, .slice Ao14 t400.length co14, .slice Ao15 t403.length co15] 26 (0, 0))) := ⟨h7_⟩
                    have n8_ : Aside0 (w89.heap[gb414]? = some (.cells #[.bool t406, .slice Ao17 t407.length co17, .slice Ao18 t410.length co18] 26 (0, 0))) := ⟨h8_⟩
                    have n9_ : Aside0 (Below w.heap.size w w89) := ⟨h9_⟩
                    clear HO_5
                    clear HO_414001
                    clear HO_414002
                    clear HO_415001
                    clear HO_415002
                    clear BK413
                    clear BK414
                    clear HB
                    clear h0_ h1_ h2_ h3_ h4_ h5_ h6_ h7_ h8_ h9_
                    have HO424 := n0_
                    have HO430 := n1_
                    have HO_414001 := n2_
                    have HO_414002 := n3_
                    have HO_415001 := n4_
                    have HO_415002 := n5_
                    have HO_5 := n6_
                    have BK413 := n7_
                    have BK414 := n8_
                    have HB := n9_
                    clear n0_ n1_ n2_ n3_ n4_ n5_ n6_ n7_ n8_ n9_
                    have hHeld : w89.cell? ⟨gb414, 0, none⟩ = some (.bool t406) ∧ w89.cell? ⟨gb414, 1, none⟩ = some (.slice Ao17 t407.length co17) ∧ w89.cell? ⟨gb414, 2, none⟩ = some (.slice Ao18 t410.length co18) := hS_
                    refine norm_ (a' := ?_) ?_ ?_
                    rotate_left
                    ·simp only [putAll, Act.put, List.setIfInBounds_toArray, List.set_cons_zero, List.set_cons_succ]
                     rfl
                    refine two_ (i := 3) (j := 9) (Ni := some 71) (Nj := some 9) #[true, true, true, true, true, true, true, false, false, false, false] #[true, true, true, false, true, true, true, false, false, true, false] rfl rfl rfl rfl (two_of HT_.out (by kernel_rfl)) (by decide) (by decide) (fun K hK => ?_) (fun K hK => ?_)
                    ·skip
                     refine Kd.R_append_rows_step (Kd.int .i64) (w0 := w) w.heap.size (by rfl) (.tmp 68) (.tmp 70) 24 3 (.int .i64 0) 8 rfl Try.underlying24 info3 rfl (by decide) (by omega) v423 y422 t407 _ _ _ (fun k_ => so k_ Ao14 t400 co14 ∧ so k_ Ao15 t403 co15 ∧ so k_ Ao17 t407 co17 ∧ so k_ Ao18 t410 co18 ∧ some k_ ≠ (v429 : Value).ownBlock) (fun _ => False) rfl rfl ?aO ?aR (fun _ _ h => h) (fun _ h => h.elim) ?aF ?aB ?aS ?aL ?_
                     (case aR => exact (Kd.R_reads' HO_415001.out).2.2)
                     (case aB => exact bl)
                     (case aF => exact (fun k_ hk => ⟨Kd.fresh' (Kd.R_lt HO_414001.out) k_ hk, Kd.fresh' (Kd.Q_lt HO_414002.out) k_ hk, Kd.fresh' (Kd.R_lt HO_415001.out) k_ hk, Kd.fresh' (Kd.Q_lt HO_415002.out) k_ hk, Kd.fresh' (Kd.R_lt HO430.out) k_ hk⟩))
                     (case aO => exact (Kd.R_mono HO424.out (fun _ hk => ⟨hk.2.1, ⟨hk.2.2.1, ⟨hk.2.2.2.1, ⟨hk.2.2.2.2, hk.1⟩⟩⟩⟩)))
                     (case aS => exact (below_size bl))
                     (case aL => have := LMc73.out; omega)
                     intro v426 w90 ho hb hg hat
                     rw [← Ny425.out] at ho
                     have n0_ := Aside0.mk (Kd.N_afterv (ok := (fun k_ => so k_ Ao14 t400 co14 ∧ so k_ Ao15 t403 co15 ∧ so k_ Ao17 t407 co17 ∧ so k_ Ao18 t410 co18 ∧ some k_ ≠ (v429 : Value).ownBlock ∧ k_ ≠ gb413 ∧ k_ ≠ gb414)) (Kd.N_mono HO_5.out (fun _ hk => ⟨⟨hk.2.2.1, ⟨hk.2.2.2.1, ⟨hk.2.2.2.2.1, ⟨hk.2.2.2.2.2.1, ⟨hk.2.1, ⟨hk.2.2.2.2.2.2.1, hk.2.2.2.2.2.2.2⟩⟩⟩⟩⟩⟩, hk.1⟩)) hg hat)
                     have n1_ := Aside0.mk (Kd.R_after (ok := (fun k_ => so k_ Ao15 t403 co15 ∧ so k_ Ao17 t407 co17 ∧ so k_ Ao18 t410 co18 ∧ some k_ ≠ (v429 : Value).ownBlock)) (Kd.R_mono HO_414001.out (fun _ hk => ⟨⟨hk.2.2.1, ⟨hk.2.2.2.1, ⟨hk.2.2.2.2, hk.2.1⟩⟩⟩, hk.1⟩)) hg hat)
                     have n2_ := Aside0.mk (Kd.Q_after (ok := (fun k_ => so k_ Ao14 t400 co14 ∧ so k_ Ao17 t407 co17 ∧ so k_ Ao18 t410 co18 ∧ some k_ ≠ (v429 : Value).ownBlock)) (Kd.Q_mono HO_414002.out (fun _ hk => ⟨⟨hk.2.2.1, ⟨hk.2.2.2.1, ⟨hk.2.2.2.2, hk.2.1⟩⟩⟩, hk.1⟩)) hg hat)
                     have n3_ := Aside0.mk (Kd.R_after (ok := (fun k_ => so k_ Ao14 t400 co14 ∧ so k_ Ao15 t403 co15 ∧ so k_ Ao18 t410 co18 ∧ some k_ ≠ (v429 : Value).ownBlock)) (Kd.R_mono HO_415001.out (fun _ hk => ⟨⟨hk.2.2.1, ⟨hk.2.2.2.1, ⟨hk.2.2.2.2, hk.2.1⟩⟩⟩, hk.1⟩)) hg hat)
                     have n4_ := Aside0.mk (Kd.Q_after (ok := (fun k_ => so k_ Ao14 t400 co14 ∧ so k_ Ao15 t403 co15 ∧ so k_ Ao17 t407 co17 ∧ some k_ ≠ (v429 : Value).ownBlock)) (Kd.Q_mono HO_415002.out (fun _ hk => ⟨⟨hk.2.2.1, ⟨hk.2.2.2.1, ⟨hk.2.2.2.2, hk.2.1⟩⟩⟩, hk.1⟩)) hg hat)
                     have n5_ := Aside0.mk (blk_grown (g := gb413) (o := .cells #[.bool t399, .slice Ao14 t400.length co14, .slice Ao15 t403.length co15] 26 (0, 0)) BK413.out hg (Kd.R_ne HO424.out BK413.out (by decide)))
                     have n6_ := Aside0.mk (blk_grown (g := gb414) (o := .cells #[.bool t406, .slice Ao17 t407.length co17, .slice Ao18 t410.length co18] 26 (0, 0)) BK414.out hg (Kd.R_ne HO424.out BK414.out (by decide)))
                     have n7_ := Aside0.mk (Kd.R_after (ok := (fun k_ => so k_ Ao14 t400 co14 ∧ so k_ Ao15 t403 co15 ∧ so k_ Ao17 t407 co17 ∧ so k_ Ao18 t410 co18)) (Kd.R_mono HO430.out (fun _ hk => ⟨⟨hk.2.1, ⟨hk.2.2.1, ⟨hk.2.2.2.1, hk.2.2.2.2⟩⟩⟩, hk.1⟩)) hg hat)
                     have n8_ := Aside0.mk (hb)
                     have n9_ := Aside0.mk (ho)
                     clear HO_5
                     clear HO_414001
                     clear HO_414002
                     clear HO_415001
                     clear HO_415002
                     clear BK413
                     clear BK414
                     clear HO430
                     clear HB
                     clear HO424
                     have HO_5 := n0_
                     have HO_414001 := n1_
                     have HO_414002 := n2_
                     have HO_415001 := n3_
                     have HO_415002 := n4_
                     have BK413 := n5_
                     have BK414 := n6_
                     have HO430 := n7_
                     have HB := n8_
                     have HO427 := n9_
                     clear n0_ n1_ n2_ n3_ n4_ n5_ n6_ n7_ n8_ n9_
                     clear ho hb hg hat
                     refine hK.out _ _ ⟨(blk_cell BK414.out 0).trans rfl, (blk_cell BK414.out 1).trans rfl, (blk_cell BK414.out 2).trans rfl⟩ (fun hHeld => ?_)
                     clear hK K
                     refine no 71 ?_
                     exact norm_ (by first | (simp only [putAll, Act.put, List.setIfInBounds_toArray, List.set_cons_zero, List.set_cons_succ]; done) | (simp only [putAll, Act.put, List.setIfInBounds_toArray, List.set_cons_zero, List.set_cons_succ]; rfl)) (hJ0_3_4 (v423, v426, v429) _ ⟨hHeld, (Kd.R_mono HO427.out (fun _ hk => ⟨hk.2.2.2.2, ⟨hk.1, ⟨hk.2.1, ⟨hk.2.2.1, hk.2.2.2.1⟩⟩⟩⟩)), (Kd.R_mono HO430.out (fun _ hk => ⟨hk.2, ⟨hk.1.1, ⟨hk.1.2.1, ⟨hk.1.2.2.1, hk.1.2.2.2⟩⟩⟩⟩)), (Kd.R_mono HO_414001.out (fun _ hk => ⟨hk.2, ⟨hk.1.2.2.2, ⟨hk.1.1, ⟨hk.1.2.1, hk.1.2.2.1⟩⟩⟩⟩)), (Kd.Q_mono HO_414002.out (fun _ hk => ⟨hk.2, ⟨hk.1.2.2.2, ⟨hk.1.1, ⟨hk.1.2.1, hk.1.2.2.1⟩⟩⟩⟩)), (Kd.R_mono HO_415001.out (fun _ hk => ⟨hk.2, ⟨hk.1.2.2.2, ⟨hk.1.1, ⟨hk.1.2.1, hk.1.2.2.1⟩⟩⟩⟩)), (Kd.Q_mono HO_415002.out (fun _ hk => ⟨hk.2, ⟨hk.1.2.2.2, ⟨hk.1.1, ⟨hk.1.2.1, hk.1.2.2.1⟩⟩⟩⟩)), (Kd.N_mono HO_5.out (fun _ hk => ⟨hk.2, ⟨hk.1.2.2.2.2.1, ⟨hk.1.1, ⟨hk.1.2.1, ⟨hk.1.2.2.1, ⟨hk.1.2.2.2.1, ⟨hk.1.2.2.2.2.2.1, hk.1.2.2.2.2.2.2⟩⟩⟩⟩⟩⟩⟩)), BK413.out, BK414.out, bl⟩)
                    ·skip
                     refine box_step ?hg (N := 9) ?hd (cs := #[.bool false, .slice none 0 0, .slice none 0 0]) (t := 26) ?hr ?_; (case hd => rfl); (case hg => rfl); (case hr => first | (go_simp; done) | (go_simp; rfl))
                     intro gb434 hg w90 hbox hb
                     have BK434 := Aside0.mk hbox
                     have GW434 := hz HB hg
                     have GE434 := hz HB hg
                     have NB413_434 := nl BK413 hg
                     have NB434_413 := ng BK413 hg
                     have NB414_434 := nl BK414 hg
                     have NB434_414 := ng BK414 hg
                     replace HO_5 := Aside0.mk (Kd.N_below (Kd.N_elderB HO_5.out gb434 (Nat.le_of_eq hg.symm)) hb)
                     replace HO_414001 := rb HO_414001 hb
                     replace HO_414002 := qb HO_414002 hb
                     replace HO_415001 := rb HO_415001 hb
                     replace HO_415002 := qb HO_415002 hb
                     replace HO424 := rb HO424 hb
                     replace HO430 := rb HO430 hb
                     replace BK413 := kb BK413 hb
                     replace BK414 := kb BK414 hb
                     replace HB := hs HB hb
                     clear hb hbox hg
                     refine hK.out _ _ ⟨(blk_cell BK414.out 0).trans rfl, (blk_cell BK414.out 1).trans rfl, (blk_cell BK414.out 2).trans rfl⟩ (fun hHeld => ?_)
                     clear hK K
                     refine no 9 ?_
                     exact norm_ (by first | (simp only [putAll, Act.put, List.setIfInBounds_toArray, List.set_cons_zero, List.set_cons_succ]; done) | (simp only [putAll, Act.put, List.setIfInBounds_toArray, List.set_cons_zero, List.set_cons_succ]; rfl)) (hJ0_4_9 (v423, v429, gb434) _ ⟨hHeld, HO424.out, HO430.out, HO_414001.out, HO_414002.out, HO_415001.out, HO_415002.out, (Kd.N_mono HO_5.out (fun _ hk => ⟨hk.1.1, ⟨hk.1.2.1, ⟨hk.1.2.2.1, ⟨hk.1.2.2.2.1, ⟨hk.1.2.2.2.2.1, ⟨hk.1.2.2.2.2.2.1, ⟨hk.1.2.2.2.2.2.2.1, ⟨hk.1.2.2.2.2.2.2.2, hk.2⟩⟩⟩⟩⟩⟩⟩⟩)), BK413.out, BK414.out, BK434.out, GW434.out, GE434.out, NB413_434.out, NB434_413.out, NB414_434.out, NB434_414.out, bl⟩)
                  ·skip
                   rintro ⟨v423, v426⟩ w88 ⟨hS_, h0_, h1_, h2_, h3_, h4_, h5_, h6_, h7_, h8_⟩
                   have n0_ : Aside0 (Kd.R (Kd.int .i64) 3 w88 w.heap.size (fun k_ => so k_ Ao14 t400 co14 ∧ so k_ Ao15 t403 co15 ∧ so k_ Ao17 t407 co17 ∧ so k_ Ao18 t410 co18) v426 y425) := ⟨h0_⟩
                   have n1_ : Aside0 (Kd.R (Kd.int .i64) 3 w88 w.heap.size (fun k_ => some k_ ≠ (v426 : Value).ownBlock ∧ so k_ Ao15 t403 co15 ∧ so k_ Ao17 t407 co17 ∧ so k_ Ao18 t410 co18) (.slice Ao14 t400.length co14) t400) := ⟨h1_⟩
                   have n2_ : Aside0 (Kd.Q (Kd.int .i64) 3 w88 w.heap.size (fun k_ => some k_ ≠ (v426 : Value).ownBlock ∧ so k_ Ao14 t400 co14 ∧ so k_ Ao17 t407 co17 ∧ so k_ Ao18 t410 co18) (.slice Ao15 t403.length co15) t403) := ⟨h2_⟩
                   have n3_ : Aside0 (Kd.R (Kd.int .i64) 3 w88 w.heap.size (fun k_ => some k_ ≠ (v426 : Value).ownBlock ∧ so k_ Ao14 t400 co14 ∧ so k_ Ao15 t403 co15 ∧ so k_ Ao18 t410 co18) (.slice Ao17 t407.length co17) t407) := ⟨h3_⟩
                   have n4_ : Aside0 (Kd.Q (Kd.int .i64) 3 w88 w.heap.size (fun k_ => some k_ ≠ (v426 : Value).ownBlock ∧ so k_ Ao14 t400 co14 ∧ so k_ Ao15 t403 co15 ∧ so k_ Ao17 t407 co17) (.slice Ao18 t410.length co18) t410) := ⟨h4_⟩
                   have n5_ : Aside0 (Kd.N k48 48 w88 w.heap.size (fun k_ => some k_ ≠ (v426 : Value).ownBlock ∧ so k_ Ao14 t400 co14 ∧ so k_ Ao15 t403 co15 ∧ so k_ Ao17 t407 co17 ∧ so k_ Ao18 t410 co18 ∧ k_ ≠ gb413 ∧ k_ ≠ gb414) (.slice Ao19 t396.length co19) t396) := ⟨h5_⟩
                   have n6_ : Aside0 (w88.heap[gb413]? = some (.cells #[.bool t399, .slice Ao14 t400.length co14, .slice Ao15 t403.length co15] 26 (0, 0))) := ⟨h6_⟩
                   have n7_ : Aside0 (w88.heap[gb414]? = some (.cells #[.bool t406, .slice Ao17 t407.length co17, .slice Ao18 t410.length co18] 26 (0, 0))) := ⟨h7_⟩
                   have n8_ : Aside0 (Below w.heap.size w w88) := ⟨h8_⟩
                   clear HO_5
                   clear HO_414001
                   clear HO_414002
                   clear HO_415001
                   clear HO_415002
                   clear BK413
                   clear BK414
                   clear HB
                   clear h0_ h1_ h2_ h3_ h4_ h5_ h6_ h7_ h8_
                   have HO427 := n0_
                   have HO_414001 := n1_
                   have HO_414002 := n2_
                   have HO_415001 := n3_
                   have HO_415002 := n4_
                   have HO_5 := n5_
                   have BK413 := n6_
                   have BK414 := n7_
                   have HB := n8_
                   clear n0_ n1_ n2_ n3_ n4_ n5_ n6_ n7_ n8_
                   have hHeld : w88.cell? ⟨gb414, 0, none⟩ = some (.bool t406) ∧ w88.cell? ⟨gb414, 1, none⟩ = some (.slice Ao17 t407.length co17) ∧ w88.cell? ⟨gb414, 2, none⟩ = some (.slice Ao18 t410.length co18) := hS_
                   refine norm_ (a' := ?_) ?_ ?_
                   rotate_left
                   ·simp only [putAll, Act.put, List.setIfInBounds_toArray, List.set_cons_zero, List.set_cons_succ]
                    rfl
                   refine two_ (i := 4) (j := 9) (Ni := some 72) (Nj := some 9) #[true, true, true, true, true, true, true, false, false, false, false] #[true, true, true, true, false, true, true, false, false, true, false] rfl rfl rfl rfl (two_of HT_.out (by kernel_rfl)) (by decide) (by decide) (fun K hK => ?_) (fun K hK => ?_)
                   ·skip
                    refine Kd.R_lit_step (Kd.int .i64) _ 3 ?hg (N := 72) ?hd (xs := ([] : List Int)) (inner := []) (ok := fun _ => True) (okp := fun _ => True) ?hr ?hp (fun _ hk => hk) trivial (Below.refl _ _) (Nat.le_refl _) (by simp) ?_; (case hd => rfl); (case hg => rfl); (case hr => first | (go_simp; done) | (go_simp; rfl)); (case hp => exact (Reps.none _ _))
                    intro v429 w89 ho90 hb hg_ hnew_
                    clear hg_ hnew_
                    (first | rw [← Ny428.out] at ho90 | (simp only [Int.reduceToNat] at ho90; rw [← Ny428.out] at ho90))
                    have HO430 := Aside0.mk (Kd.R_lower (Kd.R_new' (Kd.R_new' (Kd.R_new' (Kd.R_new' (Kd.R_new' ho90 (Kd.R_lt HO_414001.out)) (Kd.Q_lt HO_414002.out)) (Kd.R_lt HO_415001.out)) (Kd.Q_lt HO_415002.out)) (Kd.R_lt HO427.out)) (below_size bl))
                    replace HO_5 := Aside0.mk (Kd.N_elder' HO_5.out (Kd.R_base ho90) hb)
                    replace HO_414001 := Aside0.mk (Kd.R_elder' HO_414001.out (Kd.R_base ho90) hb)
                    replace HO_414002 := Aside0.mk (Kd.Q_elder' HO_414002.out (Kd.R_base ho90) hb)
                    replace HO_415001 := Aside0.mk (Kd.R_elder' HO_415001.out (Kd.R_base ho90) hb)
                    replace HO_415002 := Aside0.mk (Kd.Q_elder' HO_415002.out (Kd.R_base ho90) hb)
                    replace HO427 := Aside0.mk (Kd.R_elder' HO427.out (Kd.R_base ho90) hb)
                    replace BK413 := kb BK413 hb
                    replace BK414 := kb BK414 hb
                    replace HB := hs HB hb
                    clear hb ho90
                    refine hK.out _ _ ⟨(blk_cell BK414.out 0).trans rfl, (blk_cell BK414.out 1).trans rfl, (blk_cell BK414.out 2).trans rfl⟩ (fun hHeld => ?_)
                    clear hK K
                    refine no 72 ?_
                    exact norm_ (by first | (simp only [putAll, Act.put, List.setIfInBounds_toArray, List.set_cons_zero, List.set_cons_succ]; done) | (simp only [putAll, Act.put, List.setIfInBounds_toArray, List.set_cons_zero, List.set_cons_succ]; rfl)) (hJ0_3_4 (v423, v426, v429) _ ⟨hHeld, (Kd.R_mono HO427.out (fun _ hk => ⟨hk.2, ⟨hk.1.1, ⟨hk.1.2.1, ⟨hk.1.2.2.1, hk.1.2.2.2⟩⟩⟩⟩)), (Kd.R_mono HO430.out (fun _ hk => ⟨hk.2, ⟨hk.1.1.1.1.2, ⟨hk.1.1.1.2, ⟨hk.1.1.2, hk.1.2⟩⟩⟩⟩)), (Kd.R_mono HO_414001.out (fun _ hk => ⟨hk.1.1, ⟨hk.2, ⟨hk.1.2.1, ⟨hk.1.2.2.1, hk.1.2.2.2⟩⟩⟩⟩)), (Kd.Q_mono HO_414002.out (fun _ hk => ⟨hk.1.1, ⟨hk.2, ⟨hk.1.2.1, ⟨hk.1.2.2.1, hk.1.2.2.2⟩⟩⟩⟩)), (Kd.R_mono HO_415001.out (fun _ hk => ⟨hk.1.1, ⟨hk.2, ⟨hk.1.2.1, ⟨hk.1.2.2.1, hk.1.2.2.2⟩⟩⟩⟩)), (Kd.Q_mono HO_415002.out (fun _ hk => ⟨hk.1.1, ⟨hk.2, ⟨hk.1.2.1, ⟨hk.1.2.2.1, hk.1.2.2.2⟩⟩⟩⟩)), (Kd.N_mono HO_5.out (fun _ hk => ⟨hk.1.1, ⟨hk.2, ⟨hk.1.2.1, ⟨hk.1.2.2.1, ⟨hk.1.2.2.2.1, ⟨hk.1.2.2.2.2.1, ⟨hk.1.2.2.2.2.2.1, hk.1.2.2.2.2.2.2⟩⟩⟩⟩⟩⟩⟩)), BK413.out, BK414.out, bl⟩)
                   ·skip
                    refine box_step ?hg (N := 9) ?hd (cs := #[.bool false, .slice none 0 0, .slice none 0 0]) (t := 26) ?hr ?_; (case hd => rfl); (case hg => rfl); (case hr => first | (go_simp; done) | (go_simp; rfl))
                    intro gb434 hg w89 hbox hb
                    have BK434 := Aside0.mk hbox
                    have GW434 := hz HB hg
                    have GE434 := hz HB hg
                    have NB413_434 := nl BK413 hg
                    have NB434_413 := ng BK413 hg
                    have NB414_434 := nl BK414 hg
                    have NB434_414 := ng BK414 hg
                    replace HO_5 := Aside0.mk (Kd.N_below (Kd.N_elderB HO_5.out gb434 (Nat.le_of_eq hg.symm)) hb)
                    replace HO_414001 := rb HO_414001 hb
                    replace HO_414002 := qb HO_414002 hb
                    replace HO_415001 := rb HO_415001 hb
                    replace HO_415002 := qb HO_415002 hb
                    replace HO427 := rb HO427 hb
                    replace BK413 := kb BK413 hb
                    replace BK414 := kb BK414 hb
                    replace HB := hs HB hb
                    clear hb hbox hg
                    refine hK.out _ _ ⟨(blk_cell BK414.out 0).trans rfl, (blk_cell BK414.out 1).trans rfl, (blk_cell BK414.out 2).trans rfl⟩ (fun hHeld => ?_)
                    clear hK K
                    refine no 9 ?_
                    exact norm_ (by first | (simp only [putAll, Act.put, List.setIfInBounds_toArray, List.set_cons_zero, List.set_cons_succ]; done) | (simp only [putAll, Act.put, List.setIfInBounds_toArray, List.set_cons_zero, List.set_cons_succ]; rfl)) (hJ0_3_9 (v423, v426, gb434) _ ⟨hHeld, HO427.out, HO_414001.out, HO_414002.out, HO_415001.out, HO_415002.out, (Kd.N_mono HO_5.out (fun _ hk => ⟨hk.1.1, ⟨hk.1.2.1, ⟨hk.1.2.2.1, ⟨hk.1.2.2.2.1, ⟨hk.1.2.2.2.2.1, ⟨hk.1.2.2.2.2.2.1, ⟨hk.1.2.2.2.2.2.2, hk.2⟩⟩⟩⟩⟩⟩⟩)), BK413.out, BK414.out, BK434.out, GW434.out, GE434.out, NB413_434.out, NB434_413.out, NB414_434.out, NB434_414.out, bl⟩)
                 ·skip
                  rintro ⟨v423, v429, gb434⟩ w90 ⟨hS_, h0_, h1_, h2_, h3_, h4_, h5_, h6_, h7_, h8_, h9_, h10_, h11_, h12_, h13_, h14_, h15_, h16_⟩
                  have n0_ : Aside0 (Kd.R (Kd.int .i64) 3 w90 w.heap.size (fun k_ => some k_ ≠ (v429 : Value).ownBlock ∧ so k_ Ao14 t400 co14 ∧ so k_ Ao15 t403 co15 ∧ so k_ Ao17 t407 co17 ∧ so k_ Ao18 t410 co18) v423 y422) := ⟨h0_⟩
                  have n1_ : Aside0 (Kd.R (Kd.int .i64) 3 w90 w.heap.size (fun k_ => some k_ ≠ (v423 : Value).ownBlock ∧ so k_ Ao14 t400 co14 ∧ so k_ Ao15 t403 co15 ∧ so k_ Ao17 t407 co17 ∧ so k_ Ao18 t410 co18) v429 y428) := ⟨h1_⟩
                  have n2_ : Aside0 (Kd.R (Kd.int .i64) 3 w90 w.heap.size (fun k_ => some k_ ≠ (v423 : Value).ownBlock ∧ some k_ ≠ (v429 : Value).ownBlock ∧ so k_ Ao15 t403 co15 ∧ so k_ Ao17 t407 co17 ∧ so k_ Ao18 t410 co18) (.slice Ao14 t400.length co14) t400) := ⟨h2_⟩
                  have n3_ : Aside0 (Kd.Q (Kd.int .i64) 3 w90 w.heap.size (fun k_ => some k_ ≠ (v423 : Value).ownBlock ∧ some k_ ≠ (v429 : Value).ownBlock ∧ so k_ Ao14 t400 co14 ∧ so k_ Ao17 t407 co17 ∧ so k_ Ao18 t410 co18) (.slice Ao15 t403.length co15) t403) := ⟨h3_⟩
                  have n4_ : Aside0 (Kd.R (Kd.int .i64) 3 w90 w.heap.size (fun k_ => some k_ ≠ (v423 : Value).ownBlock ∧ some k_ ≠ (v429 : Value).ownBlock ∧ so k_ Ao14 t400 co14 ∧ so k_ Ao15 t403 co15 ∧ so k_ Ao18 t410 co18) (.slice Ao17 t407.length co17) t407) := ⟨h4_⟩
                  have n5_ : Aside0 (Kd.Q (Kd.int .i64) 3 w90 w.heap.size (fun k_ => some k_ ≠ (v423 : Value).ownBlock ∧ some k_ ≠ (v429 : Value).ownBlock ∧ so k_ Ao14 t400 co14 ∧ so k_ Ao15 t403 co15 ∧ so k_ Ao17 t407 co17) (.slice Ao18 t410.length co18) t410) := ⟨h5_⟩
                  have n6_ : Aside0 (Kd.N k48 48 w90 w.heap.size (fun k_ => some k_ ≠ (v423 : Value).ownBlock ∧ some k_ ≠ (v429 : Value).ownBlock ∧ so k_ Ao14 t400 co14 ∧ so k_ Ao15 t403 co15 ∧ so k_ Ao17 t407 co17 ∧ so k_ Ao18 t410 co18 ∧ k_ ≠ gb413 ∧ k_ ≠ gb414 ∧ k_ ≠ gb434) (.slice Ao19 t396.length co19) t396) := ⟨h6_⟩
                  have n7_ : Aside0 (w90.heap[gb413]? = some (.cells #[.bool t399, .slice Ao14 t400.length co14, .slice Ao15 t403.length co15] 26 (0, 0))) := ⟨h7_⟩
                  have n8_ : Aside0 (w90.heap[gb414]? = some (.cells #[.bool t406, .slice Ao17 t407.length co17, .slice Ao18 t410.length co18] 26 (0, 0))) := ⟨h8_⟩
                  have n9_ : Aside0 (w90.heap[gb434]? = some (.cells #[.bool false, .slice none 0 0, .slice none 0 0] 26 (0, 0))) := ⟨h9_⟩
                  have n10_ : Aside0 (w.heap.size ≤ gb434) := ⟨h10_⟩
                  have n11_ : Aside0 (w.heap.size ≤ gb434) := ⟨h11_⟩
                  have n12_ : Aside0 (gb413 ≠ gb434) := ⟨h12_⟩
                  have n13_ : Aside0 (gb434 ≠ gb413) := ⟨h13_⟩
                  have n14_ : Aside0 (gb414 ≠ gb434) := ⟨h14_⟩
                  have n15_ : Aside0 (gb434 ≠ gb414) := ⟨h15_⟩
                  have n16_ : Aside0 (Below w.heap.size w w90) := ⟨h16_⟩
                  clear HO_5
                  clear HO_414001
                  clear HO_414002
                  clear HO_415001
                  clear HO_415002
                  clear BK413
                  clear BK414
                  clear HB
                  clear h0_ h1_ h2_ h3_ h4_ h5_ h6_ h7_ h8_ h9_ h10_ h11_ h12_ h13_ h14_ h15_ h16_
                  have HO424 := n0_
                  have HO430 := n1_
                  have HO_414001 := n2_
                  have HO_414002 := n3_
                  have HO_415001 := n4_
                  have HO_415002 := n5_
                  have HO_5 := n6_
                  have BK413 := n7_
                  have BK414 := n8_
                  have BK434 := n9_
                  have GW434 := n10_
                  have GE434 := n11_
                  have NB413_434 := n12_
                  have NB434_413 := n13_
                  have NB414_434 := n14_
                  have NB434_414 := n15_
                  have HB := n16_
                  clear n0_ n1_ n2_ n3_ n4_ n5_ n6_ n7_ n8_ n9_ n10_ n11_ n12_ n13_ n14_ n15_ n16_
                  have hHeld : w90.cell? ⟨gb414, 0, none⟩ = some (.bool t406) ∧ w90.cell? ⟨gb414, 1, none⟩ = some (.slice Ao17 t407.length co17) ∧ w90.cell? ⟨gb414, 2, none⟩ = some (.slice Ao18 t410.length co18) := hS_
                  refine norm_ (a' := ?_) ?_ ?_
                  rotate_left
                  ·simp only [putAll, Act.put, List.setIfInBounds_toArray, List.set_cons_zero, List.set_cons_succ]
                   rfl
                  refine one_ (i := 3) (N := some 71) #[true, true, true, true, true, true, true, false, false, true, false] rfl rfl (one_of HT_.out (by kernel_rfl)) (by decide) (fun K hK => ?_)
                  refine Kd.R_append_rows_step (Kd.int .i64) (w0 := w) w.heap.size (by rfl) (.tmp 68) (.tmp 70) 24 3 (.int .i64 0) 8 rfl Try.underlying24 info3 rfl (by decide) (by omega) v423 y422 t407 _ _ _ (fun k_ => so k_ Ao14 t400 co14 ∧ so k_ Ao15 t403 co15 ∧ so k_ Ao17 t407 co17 ∧ so k_ Ao18 t410 co18 ∧ some k_ ≠ (v429 : Value).ownBlock) (fun _ => False) rfl rfl ?aO ?aR (fun _ _ h => h) (fun _ h => h.elim) ?aF ?aB ?aS ?aL ?_
                  (case aR => exact (Kd.R_reads' HO_415001.out).2.2)
                  (case aB => exact bl)
                  (case aF => exact (fun k_ hk => ⟨Kd.fresh' (Kd.R_lt HO_414001.out) k_ hk, Kd.fresh' (Kd.Q_lt HO_414002.out) k_ hk, Kd.fresh' (Kd.R_lt HO_415001.out) k_ hk, Kd.fresh' (Kd.Q_lt HO_415002.out) k_ hk, Kd.fresh' (Kd.R_lt HO430.out) k_ hk⟩))
                  (case aO => exact (Kd.R_mono HO424.out (fun _ hk => ⟨hk.2.1, ⟨hk.2.2.1, ⟨hk.2.2.2.1, ⟨hk.2.2.2.2, hk.1⟩⟩⟩⟩)))
                  (case aS => exact (below_size bl))
                  (case aL => have := LMc73.out; omega)
                  intro v426 w91 ho hb hg hat
                  rw [← Ny425.out] at ho
                  have n0_ := Aside0.mk (Kd.N_afterv (ok := (fun k_ => so k_ Ao14 t400 co14 ∧ so k_ Ao15 t403 co15 ∧ so k_ Ao17 t407 co17 ∧ so k_ Ao18 t410 co18 ∧ some k_ ≠ (v429 : Value).ownBlock ∧ k_ ≠ gb413 ∧ k_ ≠ gb414 ∧ k_ ≠ gb434)) (Kd.N_mono HO_5.out (fun _ hk => ⟨⟨hk.2.2.1, ⟨hk.2.2.2.1, ⟨hk.2.2.2.2.1, ⟨hk.2.2.2.2.2.1, ⟨hk.2.1, ⟨hk.2.2.2.2.2.2.1, ⟨hk.2.2.2.2.2.2.2.1, hk.2.2.2.2.2.2.2.2⟩⟩⟩⟩⟩⟩⟩, hk.1⟩)) hg hat)
                  have n1_ := Aside0.mk (Kd.R_after (ok := (fun k_ => so k_ Ao15 t403 co15 ∧ so k_ Ao17 t407 co17 ∧ so k_ Ao18 t410 co18 ∧ some k_ ≠ (v429 : Value).ownBlock)) (Kd.R_mono HO_414001.out (fun _ hk => ⟨⟨hk.2.2.1, ⟨hk.2.2.2.1, ⟨hk.2.2.2.2, hk.2.1⟩⟩⟩, hk.1⟩)) hg hat)
                  have n2_ := Aside0.mk (Kd.Q_after (ok := (fun k_ => so k_ Ao14 t400 co14 ∧ so k_ Ao17 t407 co17 ∧ so k_ Ao18 t410 co18 ∧ some k_ ≠ (v429 : Value).ownBlock)) (Kd.Q_mono HO_414002.out (fun _ hk => ⟨⟨hk.2.2.1, ⟨hk.2.2.2.1, ⟨hk.2.2.2.2, hk.2.1⟩⟩⟩, hk.1⟩)) hg hat)
                  have n3_ := Aside0.mk (Kd.R_after (ok := (fun k_ => so k_ Ao14 t400 co14 ∧ so k_ Ao15 t403 co15 ∧ so k_ Ao18 t410 co18 ∧ some k_ ≠ (v429 : Value).ownBlock)) (Kd.R_mono HO_415001.out (fun _ hk => ⟨⟨hk.2.2.1, ⟨hk.2.2.2.1, ⟨hk.2.2.2.2, hk.2.1⟩⟩⟩, hk.1⟩)) hg hat)
                  have n4_ := Aside0.mk (Kd.Q_after (ok := (fun k_ => so k_ Ao14 t400 co14 ∧ so k_ Ao15 t403 co15 ∧ so k_ Ao17 t407 co17 ∧ some k_ ≠ (v429 : Value).ownBlock)) (Kd.Q_mono HO_415002.out (fun _ hk => ⟨⟨hk.2.2.1, ⟨hk.2.2.2.1, ⟨hk.2.2.2.2, hk.2.1⟩⟩⟩, hk.1⟩)) hg hat)
                  have n5_ := Aside0.mk (blk_grown (g := gb413) (o := .cells #[.bool t399, .slice Ao14 t400.length co14, .slice Ao15 t403.length co15] 26 (0, 0)) BK413.out hg (Kd.R_ne HO424.out BK413.out (by decide)))
                  have n6_ := Aside0.mk (blk_grown (g := gb414) (o := .cells #[.bool t406, .slice Ao17 t407.length co17, .slice Ao18 t410.length co18] 26 (0, 0)) BK414.out hg (Kd.R_ne HO424.out BK414.out (by decide)))
                  have n7_ := Aside0.mk (Kd.R_after (ok := (fun k_ => so k_ Ao14 t400 co14 ∧ so k_ Ao15 t403 co15 ∧ so k_ Ao17 t407 co17 ∧ so k_ Ao18 t410 co18)) (Kd.R_mono HO430.out (fun _ hk => ⟨⟨hk.2.1, ⟨hk.2.2.1, ⟨hk.2.2.2.1, hk.2.2.2.2⟩⟩⟩, hk.1⟩)) hg hat)
                  have n8_ := Aside0.mk (blk_grown (g := gb434) (o := .cells #[.bool false, .slice none 0 0, .slice none 0 0] 26 (0, 0)) BK434.out hg (Kd.R_ne HO424.out BK434.out (by decide)))
                  have n9_ := Aside0.mk (hb)
                  have n10_ := Aside0.mk (ho)
                  clear HO_5
                  clear HO_414001
                  clear HO_414002
                  clear HO_415001
                  clear HO_415002
                  clear BK413
                  clear BK414
                  clear HO430
                  clear BK434
                  clear HB
                  clear HO424
                  have HO_5 := n0_
                  have HO_414001 := n1_
                  have HO_414002 := n2_
                  have HO_415001 := n3_
                  have HO_415002 := n4_
                  have BK413 := n5_
                  have BK414 := n6_
                  have HO430 := n7_
                  have BK434 := n8_
                  have HB := n9_
                  have HO427 := n10_
                  clear n0_ n1_ n2_ n3_ n4_ n5_ n6_ n7_ n8_ n9_ n10_
                  clear ho hb hg hat
                  refine hK.out _ _ ⟨(blk_cell BK414.out 0).trans rfl, (blk_cell BK414.out 1).trans rfl, (blk_cell BK414.out 2).trans rfl⟩ (fun hHeld => ?_)
                  clear hK K
                  refine no 71 ?_
                  exact norm_ (by first | (simp only [putAll, Act.put, List.setIfInBounds_toArray, List.set_cons_zero, List.set_cons_succ]; done) | (simp only [putAll, Act.put, List.setIfInBounds_toArray, List.set_cons_zero, List.set_cons_succ]; rfl)) (hJ0_3_4_9 (v423, v426, v429, gb434) _ ⟨hHeld, (Kd.R_mono HO427.out (fun _ hk => ⟨hk.2.2.2.2, ⟨hk.1, ⟨hk.2.1, ⟨hk.2.2.1, hk.2.2.2.1⟩⟩⟩⟩)), (Kd.R_mono HO430.out (fun _ hk => ⟨hk.2, ⟨hk.1.1, ⟨hk.1.2.1, ⟨hk.1.2.2.1, hk.1.2.2.2⟩⟩⟩⟩)), (Kd.R_mono HO_414001.out (fun _ hk => ⟨hk.2, ⟨hk.1.2.2.2, ⟨hk.1.1, ⟨hk.1.2.1, hk.1.2.2.1⟩⟩⟩⟩)), (Kd.Q_mono HO_414002.out (fun _ hk => ⟨hk.2, ⟨hk.1.2.2.2, ⟨hk.1.1, ⟨hk.1.2.1, hk.1.2.2.1⟩⟩⟩⟩)), (Kd.R_mono HO_415001.out (fun _ hk => ⟨hk.2, ⟨hk.1.2.2.2, ⟨hk.1.1, ⟨hk.1.2.1, hk.1.2.2.1⟩⟩⟩⟩)), (Kd.Q_mono HO_415002.out (fun _ hk => ⟨hk.2, ⟨hk.1.2.2.2, ⟨hk.1.1, ⟨hk.1.2.1, hk.1.2.2.1⟩⟩⟩⟩)), (Kd.N_mono HO_5.out (fun _ hk => ⟨hk.2, ⟨hk.1.2.2.2.2.1, ⟨hk.1.1, ⟨hk.1.2.1, ⟨hk.1.2.2.1, ⟨hk.1.2.2.2.1, ⟨hk.1.2.2.2.2.2.1, ⟨hk.1.2.2.2.2.2.2.1, hk.1.2.2.2.2.2.2.2⟩⟩⟩⟩⟩⟩⟩⟩)), BK413.out, BK414.out, BK434.out, GW434.out, GE434.out, NB413_434.out, NB434_413.out, NB414_434.out, NB434_414.out, bl⟩)
                ·skip
                 rintro ⟨v423, v426, gb434⟩ w89 ⟨hS_, h0_, h1_, h2_, h3_, h4_, h5_, h6_, h7_, h8_, h9_, h10_, h11_, h12_, h13_, h14_, h15_⟩
                 have n0_ : Aside0 (Kd.R (Kd.int .i64) 3 w89 w.heap.size (fun k_ => so k_ Ao14 t400 co14 ∧ so k_ Ao15 t403 co15 ∧ so k_ Ao17 t407 co17 ∧ so k_ Ao18 t410 co18) v426 y425) := ⟨h0_⟩
                 have n1_ : Aside0 (Kd.R (Kd.int .i64) 3 w89 w.heap.size (fun k_ => some k_ ≠ (v426 : Value).ownBlock ∧ so k_ Ao15 t403 co15 ∧ so k_ Ao17 t407 co17 ∧ so k_ Ao18 t410 co18) (.slice Ao14 t400.length co14) t400) := ⟨h1_⟩
                 have n2_ : Aside0 (Kd.Q (Kd.int .i64) 3 w89 w.heap.size (fun k_ => some k_ ≠ (v426 : Value).ownBlock ∧ so k_ Ao14 t400 co14 ∧ so k_ Ao17 t407 co17 ∧ so k_ Ao18 t410 co18) (.slice Ao15 t403.length co15) t403) := ⟨h2_⟩
                 have n3_ : Aside0 (Kd.R (Kd.int .i64) 3 w89 w.heap.size (fun k_ => some k_ ≠ (v426 : Value).ownBlock ∧ so k_ Ao14 t400 co14 ∧ so k_ Ao15 t403 co15 ∧ so k_ Ao18 t410 co18) (.slice Ao17 t407.length co17) t407) := ⟨h3_⟩
                 have n4_ : Aside0 (Kd.Q (Kd.int .i64) 3 w89 w.heap.size (fun k_ => some k_ ≠ (v426 : Value).ownBlock ∧ so k_ Ao14 t400 co14 ∧ so k_ Ao15 t403 co15 ∧ so k_ Ao17 t407 co17) (.slice Ao18 t410.length co18) t410) := ⟨h4_⟩
                 have n5_ : Aside0 (Kd.N k48 48 w89 w.heap.size (fun k_ => some k_ ≠ (v426 : Value).ownBlock ∧ so k_ Ao14 t400 co14 ∧ so k_ Ao15 t403 co15 ∧ so k_ Ao17 t407 co17 ∧ so k_ Ao18 t410 co18 ∧ k_ ≠ gb413 ∧ k_ ≠ gb414 ∧ k_ ≠ gb434) (.slice Ao19 t396.length co19) t396) := ⟨h5_⟩
                 have n6_ : Aside0 (w89.heap[gb413]? = some (.cells #[.bool t399, .slice Ao14 t400.length co14, .slice Ao15 t403.length co15] 26 (0, 0))) := ⟨h6_⟩
                 have n7_ : Aside0 (w89.heap[gb414]? = some (.cells #[.bool t406, .slice Ao17 t407.length co17, .slice Ao18 t410.length co18] 26 (0, 0))) := ⟨h7_⟩
                 have n8_ : Aside0 (w89.heap[gb434]? = some (.cells #[.bool false, .slice none 0 0, .slice none 0 0] 26 (0, 0))) := ⟨h8_⟩
                 have n9_ : Aside0 (w.heap.size ≤ gb434) := ⟨h9_⟩
                 have n10_ : Aside0 (w.heap.size ≤ gb434) := ⟨h10_⟩
                 have n11_ : Aside0 (gb413 ≠ gb434) := ⟨h11_⟩
                 have n12_ : Aside0 (gb434 ≠ gb413) := ⟨h12_⟩
                 have n13_ : Aside0 (gb414 ≠ gb434) := ⟨h13_⟩
                 have n14_ : Aside0 (gb434 ≠ gb414) := ⟨h14_⟩
                 have n15_ : Aside0 (Below w.heap.size w w89) := ⟨h15_⟩
                 clear HO_5
                 clear HO_414001
                 clear HO_414002
                 clear HO_415001
                 clear HO_415002
                 clear BK413
                 clear BK414
                 clear HB
                 clear h0_ h1_ h2_ h3_ h4_ h5_ h6_ h7_ h8_ h9_ h10_ h11_ h12_ h13_ h14_ h15_
                 have HO427 := n0_
                 have HO_414001 := n1_
                 have HO_414002 := n2_
                 have HO_415001 := n3_
                 have HO_415002 := n4_
                 have HO_5 := n5_
                 have BK413 := n6_
                 have BK414 := n7_
                 have BK434 := n8_
                 have GW434 := n9_
                 have GE434 := n10_
                 have NB413_434 := n11_
                 have NB434_413 := n12_
                 have NB414_434 := n13_
                 have NB434_414 := n14_
                 have HB := n15_
                 clear n0_ n1_ n2_ n3_ n4_ n5_ n6_ n7_ n8_ n9_ n10_ n11_ n12_ n13_ n14_ n15_
                 have hHeld : w89.cell? ⟨gb414, 0, none⟩ = some (.bool t406) ∧ w89.cell? ⟨gb414, 1, none⟩ = some (.slice Ao17 t407.length co17) ∧ w89.cell? ⟨gb414, 2, none⟩ = some (.slice Ao18 t410.length co18) := hS_
                 refine norm_ (a' := ?_) ?_ ?_
                 rotate_left
                 ·simp only [putAll, Act.put, List.setIfInBounds_toArray, List.set_cons_zero, List.set_cons_succ]
                  rfl
                 refine one_ (i := 4) (N := some 72) #[true, true, true, true, true, true, true, false, false, true, false] rfl rfl (one_of HT_.out (by kernel_rfl)) (by decide) (fun K hK => ?_)
                 refine Kd.R_lit_step (Kd.int .i64) _ 3 ?hg (N := 72) ?hd (xs := ([] : List Int)) (inner := []) (ok := fun _ => True) (okp := fun _ => True) ?hr ?hp (fun _ hk => hk) trivial (Below.refl _ _) (Nat.le_refl _) (by simp) ?_; (case hd => rfl); (case hg => rfl); (case hr => first | (go_simp; done) | (go_simp; rfl)); (case hp => exact (Reps.none _ _))
                 intro v429 w90 ho91 hb hg_ hnew_
                 clear hg_ hnew_
                 (first | rw [← Ny428.out] at ho91 | (simp only [Int.reduceToNat] at ho91; rw [← Ny428.out] at ho91))
                 have HO430 := Aside0.mk (Kd.R_lower (Kd.R_new' (Kd.R_new' (Kd.R_new' (Kd.R_new' (Kd.R_new' ho91 (Kd.R_lt HO_414001.out)) (Kd.Q_lt HO_414002.out)) (Kd.R_lt HO_415001.out)) (Kd.Q_lt HO_415002.out)) (Kd.R_lt HO427.out)) (below_size bl))
                 replace HO_5 := Aside0.mk (Kd.N_elder' HO_5.out (Kd.R_base ho91) hb)
                 replace HO_414001 := Aside0.mk (Kd.R_elder' HO_414001.out (Kd.R_base ho91) hb)
                 replace HO_414002 := Aside0.mk (Kd.Q_elder' HO_414002.out (Kd.R_base ho91) hb)
                 replace HO_415001 := Aside0.mk (Kd.R_elder' HO_415001.out (Kd.R_base ho91) hb)
                 replace HO_415002 := Aside0.mk (Kd.Q_elder' HO_415002.out (Kd.R_base ho91) hb)
                 replace HO427 := Aside0.mk (Kd.R_elder' HO427.out (Kd.R_base ho91) hb)
                 replace BK413 := kb BK413 hb
                 replace BK414 := kb BK414 hb
                 replace BK434 := kb BK434 hb
                 replace HB := hs HB hb
                 clear hb ho91
                 refine hK.out _ _ ⟨(blk_cell BK414.out 0).trans rfl, (blk_cell BK414.out 1).trans rfl, (blk_cell BK414.out 2).trans rfl⟩ (fun hHeld => ?_)
                 clear hK K
                 refine no 72 ?_
                 exact norm_ (by first | (simp only [putAll, Act.put, List.setIfInBounds_toArray, List.set_cons_zero, List.set_cons_succ]; done) | (simp only [putAll, Act.put, List.setIfInBounds_toArray, List.set_cons_zero, List.set_cons_succ]; rfl)) (hJ0_3_4_9 (v423, v426, v429, gb434) _ ⟨hHeld, (Kd.R_mono HO427.out (fun _ hk => ⟨hk.2, ⟨hk.1.1, ⟨hk.1.2.1, ⟨hk.1.2.2.1, hk.1.2.2.2⟩⟩⟩⟩)), (Kd.R_mono HO430.out (fun _ hk => ⟨hk.2, ⟨hk.1.1.1.1.2, ⟨hk.1.1.1.2, ⟨hk.1.1.2, hk.1.2⟩⟩⟩⟩)), (Kd.R_mono HO_414001.out (fun _ hk => ⟨hk.1.1, ⟨hk.2, ⟨hk.1.2.1, ⟨hk.1.2.2.1, hk.1.2.2.2⟩⟩⟩⟩)), (Kd.Q_mono HO_414002.out (fun _ hk => ⟨hk.1.1, ⟨hk.2, ⟨hk.1.2.1, ⟨hk.1.2.2.1, hk.1.2.2.2⟩⟩⟩⟩)), (Kd.R_mono HO_415001.out (fun _ hk => ⟨hk.1.1, ⟨hk.2, ⟨hk.1.2.1, ⟨hk.1.2.2.1, hk.1.2.2.2⟩⟩⟩⟩)), (Kd.Q_mono HO_415002.out (fun _ hk => ⟨hk.1.1, ⟨hk.2, ⟨hk.1.2.1, ⟨hk.1.2.2.1, hk.1.2.2.2⟩⟩⟩⟩)), (Kd.N_mono HO_5.out (fun _ hk => ⟨hk.1.1, ⟨hk.2, ⟨hk.1.2.1, ⟨hk.1.2.2.1, ⟨hk.1.2.2.2.1, ⟨hk.1.2.2.2.2.1, ⟨hk.1.2.2.2.2.2.1, ⟨hk.1.2.2.2.2.2.2.1, hk.1.2.2.2.2.2.2.2⟩⟩⟩⟩⟩⟩⟩⟩)), BK413.out, BK414.out, BK434.out, GW434.out, GE434.out, NB413_434.out, NB434_413.out, NB414_434.out, NB434_414.out, bl⟩)
               ·skip
                rintro ⟨v423, v426, v429⟩ w90 ⟨hS_, h0_, h1_, h2_, h3_, h4_, h5_, h6_, h7_, h8_, h9_⟩
                have n0_ : Aside0 (Kd.R (Kd.int .i64) 3 w90 w.heap.size (fun k_ => some k_ ≠ (v429 : Value).ownBlock ∧ so k_ Ao14 t400 co14 ∧ so k_ Ao15 t403 co15 ∧ so k_ Ao17 t407 co17 ∧ so k_ Ao18 t410 co18) v426 y425) := ⟨h0_⟩
                have n1_ : Aside0 (Kd.R (Kd.int .i64) 3 w90 w.heap.size (fun k_ => some k_ ≠ (v426 : Value).ownBlock ∧ so k_ Ao14 t400 co14 ∧ so k_ Ao15 t403 co15 ∧ so k_ Ao17 t407 co17 ∧ so k_ Ao18 t410 co18) v429 y428) := ⟨h1_⟩
                have n2_ : Aside0 (Kd.R (Kd.int .i64) 3 w90 w.heap.size (fun k_ => some k_ ≠ (v426 : Value).ownBlock ∧ some k_ ≠ (v429 : Value).ownBlock ∧ so k_ Ao15 t403 co15 ∧ so k_ Ao17 t407 co17 ∧ so k_ Ao18 t410 co18) (.slice Ao14 t400.length co14) t400) := ⟨h2_⟩
                have n3_ : Aside0 (Kd.Q (Kd.int .i64) 3 w90 w.heap.size (fun k_ => some k_ ≠ (v426 : Value).ownBlock ∧ some k_ ≠ (v429 : Value).ownBlock ∧ so k_ Ao14 t400 co14 ∧ so k_ Ao17 t407 co17 ∧ so k_ Ao18 t410 co18) (.slice Ao15 t403.length co15) t403) := ⟨h3_⟩
                have n4_ : Aside0 (Kd.R (Kd.int .i64) 3 w90 w.heap.size (fun k_ => some k_ ≠ (v426 : Value).ownBlock ∧ some k_ ≠ (v429 : Value).ownBlock ∧ so k_ Ao14 t400 co14 ∧ so k_ Ao15 t403 co15 ∧ so k_ Ao18 t410 co18) (.slice Ao17 t407.length co17) t407) := ⟨h4_⟩
                have n5_ : Aside0 (Kd.Q (Kd.int .i64) 3 w90 w.heap.size (fun k_ => some k_ ≠ (v426 : Value).ownBlock ∧ some k_ ≠ (v429 : Value).ownBlock ∧ so k_ Ao14 t400 co14 ∧ so k_ Ao15 t403 co15 ∧ so k_ Ao17 t407 co17) (.slice Ao18 t410.length co18) t410) := ⟨h5_⟩
                have n6_ : Aside0 (Kd.N k48 48 w90 w.heap.size (fun k_ => some k_ ≠ (v426 : Value).ownBlock ∧ some k_ ≠ (v429 : Value).ownBlock ∧ so k_ Ao14 t400 co14 ∧ so k_ Ao15 t403 co15 ∧ so k_ Ao17 t407 co17 ∧ so k_ Ao18 t410 co18 ∧ k_ ≠ gb413 ∧ k_ ≠ gb414) (.slice Ao19 t396.length co19) t396) := ⟨h6_⟩
                have n7_ : Aside0 (w90.heap[gb413]? = some (.cells #[.bool t399, .slice Ao14 t400.length co14, .slice Ao15 t403.length co15] 26 (0, 0))) := ⟨h7_⟩
                have n8_ : Aside0 (w90.heap[gb414]? = some (.cells #[.bool t406, .slice Ao17 t407.length co17, .slice Ao18 t410.length co18] 26 (0, 0))) := ⟨h8_⟩
                have n9_ : Aside0 (Below w.heap.size w w90) := ⟨h9_⟩
                clear HO_5
                clear HO_414001
                clear HO_414002
                clear HO_415001
                clear HO_415002
                clear BK413
                clear BK414
                clear HB
                clear h0_ h1_ h2_ h3_ h4_ h5_ h6_ h7_ h8_ h9_
                have HO427 := n0_
                have HO430 := n1_
                have HO_414001 := n2_
                have HO_414002 := n3_
                have HO_415001 := n4_
                have HO_415002 := n5_
                have HO_5 := n6_
                have BK413 := n7_
                have BK414 := n8_
                have HB := n9_
                clear n0_ n1_ n2_ n3_ n4_ n5_ n6_ n7_ n8_ n9_
                have hHeld : w90.cell? ⟨gb414, 0, none⟩ = some (.bool t406) ∧ w90.cell? ⟨gb414, 1, none⟩ = some (.slice Ao17 t407.length co17) ∧ w90.cell? ⟨gb414, 2, none⟩ = some (.slice Ao18 t410.length co18) := hS_
                refine norm_ (a' := ?_) ?_ ?_
                rotate_left
                ·simp only [putAll, Act.put, List.setIfInBounds_toArray, List.set_cons_zero, List.set_cons_succ]
                 rfl
                refine two_ (i := 7) (j := 9) (Ni := some 75) (Nj := some 9) #[true, true, true, true, true, true, true, true, false, false, false] #[true, true, true, true, true, true, true, false, false, true, false] rfl rfl rfl rfl (two_of HT_.out (by kernel_rfl)) (by decide) (by decide) (fun K hK => ?_) (fun K hK => ?_)
                ·skip
                 refine Kd.R_append_rows_step (Kd.int .i64) (w0 := w) w.heap.size (by rfl) (.tmp 72) (.tmp 74) 24 3 (.int .i64 0) 8 rfl Try.underlying24 info3 rfl (by decide) (by omega) v429 y428 t410 _ _ _ (fun k_ => so k_ Ao14 t400 co14 ∧ so k_ Ao15 t403 co15 ∧ so k_ Ao17 t407 co17 ∧ so k_ Ao18 t410 co18 ∧ some k_ ≠ (v426 : Value).ownBlock) (fun _ => False) rfl rfl ?aO ?aR (fun _ _ h => h) (fun _ h => h.elim) ?aF ?aB ?aS ?aL ?_
                 (case aR => exact (Kd.Q_reads' HO_415002.out).2.2)
                 (case aB => exact bl)
                 (case aF => exact (fun k_ hk => ⟨Kd.fresh' (Kd.R_lt HO_414001.out) k_ hk, Kd.fresh' (Kd.Q_lt HO_414002.out) k_ hk, Kd.fresh' (Kd.R_lt HO_415001.out) k_ hk, Kd.fresh' (Kd.Q_lt HO_415002.out) k_ hk, Kd.fresh' (Kd.R_lt HO427.out) k_ hk⟩))
                 (case aO => exact (Kd.R_mono HO430.out (fun _ hk => ⟨hk.2.1, ⟨hk.2.2.1, ⟨hk.2.2.2.1, ⟨hk.2.2.2.2, hk.1⟩⟩⟩⟩)))
                 (case aS => exact (below_size bl))
                 (case aL => have := LMc74.out; omega)
                 intro v432 w91 ho hb hg hat
                 rw [← Ny431.out] at ho
                 have n0_ := Aside0.mk (Kd.N_afterv (ok := (fun k_ => so k_ Ao14 t400 co14 ∧ so k_ Ao15 t403 co15 ∧ so k_ Ao17 t407 co17 ∧ so k_ Ao18 t410 co18 ∧ some k_ ≠ (v426 : Value).ownBlock ∧ k_ ≠ gb413 ∧ k_ ≠ gb414)) (Kd.N_mono HO_5.out (fun _ hk => ⟨⟨hk.2.2.1, ⟨hk.2.2.2.1, ⟨hk.2.2.2.2.1, ⟨hk.2.2.2.2.2.1, ⟨hk.1, ⟨hk.2.2.2.2.2.2.1, hk.2.2.2.2.2.2.2⟩⟩⟩⟩⟩⟩, hk.2.1⟩)) hg hat)
                 have n1_ := Aside0.mk (Kd.R_after (ok := (fun k_ => so k_ Ao15 t403 co15 ∧ so k_ Ao17 t407 co17 ∧ so k_ Ao18 t410 co18 ∧ some k_ ≠ (v426 : Value).ownBlock)) (Kd.R_mono HO_414001.out (fun _ hk => ⟨⟨hk.2.2.1, ⟨hk.2.2.2.1, ⟨hk.2.2.2.2, hk.1⟩⟩⟩, hk.2.1⟩)) hg hat)
                 have n2_ := Aside0.mk (Kd.Q_after (ok := (fun k_ => so k_ Ao14 t400 co14 ∧ so k_ Ao17 t407 co17 ∧ so k_ Ao18 t410 co18 ∧ some k_ ≠ (v426 : Value).ownBlock)) (Kd.Q_mono HO_414002.out (fun _ hk => ⟨⟨hk.2.2.1, ⟨hk.2.2.2.1, ⟨hk.2.2.2.2, hk.1⟩⟩⟩, hk.2.1⟩)) hg hat)
                 have n3_ := Aside0.mk (Kd.R_after (ok := (fun k_ => so k_ Ao14 t400 co14 ∧ so k_ Ao15 t403 co15 ∧ so k_ Ao18 t410 co18 ∧ some k_ ≠ (v426 : Value).ownBlock)) (Kd.R_mono HO_415001.out (fun _ hk => ⟨⟨hk.2.2.1, ⟨hk.2.2.2.1, ⟨hk.2.2.2.2, hk.1⟩⟩⟩, hk.2.1⟩)) hg hat)
                 have n4_ := Aside0.mk (Kd.Q_after (ok := (fun k_ => so k_ Ao14 t400 co14 ∧ so k_ Ao15 t403 co15 ∧ so k_ Ao17 t407 co17 ∧ some k_ ≠ (v426 : Value).ownBlock)) (Kd.Q_mono HO_415002.out (fun _ hk => ⟨⟨hk.2.2.1, ⟨hk.2.2.2.1, ⟨hk.2.2.2.2, hk.1⟩⟩⟩, hk.2.1⟩)) hg hat)
                 have n5_ := Aside0.mk (blk_grown (g := gb413) (o := .cells #[.bool t399, .slice Ao14 t400.length co14, .slice Ao15 t403.length co15] 26 (0, 0)) BK413.out hg (Kd.R_ne HO430.out BK413.out (by decide)))
                 have n6_ := Aside0.mk (blk_grown (g := gb414) (o := .cells #[.bool t406, .slice Ao17 t407.length co17, .slice Ao18 t410.length co18] 26 (0, 0)) BK414.out hg (Kd.R_ne HO430.out BK414.out (by decide)))
                 have n7_ := Aside0.mk (Kd.R_after (ok := (fun k_ => so k_ Ao14 t400 co14 ∧ so k_ Ao15 t403 co15 ∧ so k_ Ao17 t407 co17 ∧ so k_ Ao18 t410 co18)) (Kd.R_mono HO427.out (fun _ hk => ⟨⟨hk.2.1, ⟨hk.2.2.1, ⟨hk.2.2.2.1, hk.2.2.2.2⟩⟩⟩, hk.1⟩)) hg hat)
                 have n8_ := Aside0.mk (hb)
                 have n9_ := Aside0.mk (ho)
                 clear HO_5
                 clear HO_414001
                 clear HO_414002
                 clear HO_415001
                 clear HO_415002
                 clear BK413
                 clear BK414
                 clear HO427
                 clear HB
                 clear HO430
                 have HO_5 := n0_
                 have HO_414001 := n1_
                 have HO_414002 := n2_
                 have HO_415001 := n3_
                 have HO_415002 := n4_
                 have BK413 := n5_
                 have BK414 := n6_
                 have HO427 := n7_
                 have HB := n8_
                 have HO433 := n9_
                 clear n0_ n1_ n2_ n3_ n4_ n5_ n6_ n7_ n8_ n9_
                 clear ho hb hg hat
                 obtain ⟨Ao92, co92, eo92⟩ := Kd.R_slice HO433.out
                 (first | subst eo92 | (injection eo92 with f1_ f2_ f3_; have f4_ := f1_.symm; have f5_ := f3_.symm; clear f1_ f2_ f3_; subst f4_; subst f5_))
                 obtain ⟨Ao93, co93, eo93⟩ := Kd.R_slice HO427.out
                 (first | subst eo93 | (injection eo93 with f1_ f2_ f3_; have f4_ := f1_.symm; have f5_ := f3_.symm; clear f1_ f2_ f3_; subst f4_; subst f5_))
                 refine hK.out _ _ ⟨(blk_cell BK414.out 0).trans rfl, (blk_cell BK414.out 1).trans rfl, (blk_cell BK414.out 2).trans rfl⟩ (fun hHeld => ?_)
                 clear hK K
                 refine no 75 ?_
                 refine pu 8 76 #[true, true, true, true, true, true, true, true, true, false, false] HT_ rfl rfl ?_
                 exact norm_ (by first | (simp only [putAll, Act.put, List.setIfInBounds_toArray, List.set_cons_zero, List.set_cons_succ]; done) | (simp only [putAll, Act.put, List.setIfInBounds_toArray, List.set_cons_zero, List.set_cons_succ]; rfl)) (hJ0_3_4_7 (v423, .slice Ao93 y425.length co93, v429, .slice Ao92 y431.length co92) _ ⟨hHeld, (Kd.R_mono HO427.out (fun _ hk => ⟨hk.2, ⟨hk.1.1, ⟨hk.1.2.1, ⟨hk.1.2.2.1, hk.1.2.2.2⟩⟩⟩⟩)), (Kd.R_mono HO433.out (fun _ hk => ⟨hk.2.2.2.2, ⟨hk.1, ⟨hk.2.1, ⟨hk.2.2.1, hk.2.2.2.1⟩⟩⟩⟩)), (Kd.R_mono HO_414001.out (fun _ hk => ⟨hk.1.2.2.2, ⟨hk.2, ⟨hk.1.1, ⟨hk.1.2.1, hk.1.2.2.1⟩⟩⟩⟩)), (Kd.Q_mono HO_414002.out (fun _ hk => ⟨hk.1.2.2.2, ⟨hk.2, ⟨hk.1.1, ⟨hk.1.2.1, hk.1.2.2.1⟩⟩⟩⟩)), (Kd.R_mono HO_415001.out (fun _ hk => ⟨hk.1.2.2.2, ⟨hk.2, ⟨hk.1.1, ⟨hk.1.2.1, hk.1.2.2.1⟩⟩⟩⟩)), (Kd.Q_mono HO_415002.out (fun _ hk => ⟨hk.1.2.2.2, ⟨hk.2, ⟨hk.1.1, ⟨hk.1.2.1, hk.1.2.2.1⟩⟩⟩⟩)), (Kd.N_mono HO_5.out (fun _ hk => ⟨hk.1.2.2.2.2.1, ⟨hk.2, ⟨hk.1.1, ⟨hk.1.2.1, ⟨hk.1.2.2.1, ⟨hk.1.2.2.2.1, ⟨hk.1.2.2.2.2.2.1, hk.1.2.2.2.2.2.2⟩⟩⟩⟩⟩⟩⟩)), BK413.out, BK414.out, bl⟩)
                ·skip
                 refine box_step ?hg (N := 9) ?hd (cs := #[.bool false, .slice none 0 0, .slice none 0 0]) (t := 26) ?hr ?_; (case hd => rfl); (case hg => rfl); (case hr => first | (go_simp; done) | (go_simp; rfl))
                 intro gb434 hg w91 hbox hb
                 have BK434 := Aside0.mk hbox
                 have GW434 := hz HB hg
                 have GE434 := hz HB hg
                 have NB413_434 := nl BK413 hg
                 have NB434_413 := ng BK413 hg
                 have NB414_434 := nl BK414 hg
                 have NB434_414 := ng BK414 hg
                 replace HO_5 := Aside0.mk (Kd.N_below (Kd.N_elderB HO_5.out gb434 (Nat.le_of_eq hg.symm)) hb)
                 replace HO_414001 := rb HO_414001 hb
                 replace HO_414002 := qb HO_414002 hb
                 replace HO_415001 := rb HO_415001 hb
                 replace HO_415002 := qb HO_415002 hb
                 replace HO427 := rb HO427 hb
                 replace HO430 := rb HO430 hb
                 replace BK413 := kb BK413 hb
                 replace BK414 := kb BK414 hb
                 replace HB := hs HB hb
                 clear hb hbox hg
                 refine hK.out _ _ ⟨(blk_cell BK414.out 0).trans rfl, (blk_cell BK414.out 1).trans rfl, (blk_cell BK414.out 2).trans rfl⟩ (fun hHeld => ?_)
                 clear hK K
                 refine no 9 ?_
                 exact norm_ (by first | (simp only [putAll, Act.put, List.setIfInBounds_toArray, List.set_cons_zero, List.set_cons_succ]; done) | (simp only [putAll, Act.put, List.setIfInBounds_toArray, List.set_cons_zero, List.set_cons_succ]; rfl)) (hJ0_3_4_9 (v423, v426, v429, gb434) _ ⟨hHeld, HO427.out, HO430.out, HO_414001.out, HO_414002.out, HO_415001.out, HO_415002.out, (Kd.N_mono HO_5.out (fun _ hk => ⟨hk.1.1, ⟨hk.1.2.1, ⟨hk.1.2.2.1, ⟨hk.1.2.2.2.1, ⟨hk.1.2.2.2.2.1, ⟨hk.1.2.2.2.2.2.1, ⟨hk.1.2.2.2.2.2.2.1, ⟨hk.1.2.2.2.2.2.2.2, hk.2⟩⟩⟩⟩⟩⟩⟩⟩)), BK413.out, BK414.out, BK434.out, GW434.out, GE434.out, NB413_434.out, NB434_413.out, NB414_434.out, NB434_414.out, bl⟩)
              ·skip
               rintro ⟨v423, v426, v429, gb434⟩ w91 ⟨hS_, h0_, h1_, h2_, h3_, h4_, h5_, h6_, h7_, h8_, h9_, h10_, h11_, h12_, h13_, h14_, h15_, h16_⟩
               have n0_ : Aside0 (Kd.R (Kd.int .i64) 3 w91 w.heap.size (fun k_ => some k_ ≠ (v429 : Value).ownBlock ∧ so k_ Ao14 t400 co14 ∧ so k_ Ao15 t403 co15 ∧ so k_ Ao17 t407 co17 ∧ so k_ Ao18 t410 co18) v426 y425) := ⟨h0_⟩
               have n1_ : Aside0 (Kd.R (Kd.int .i64) 3 w91 w.heap.size (fun k_ => some k_ ≠ (v426 : Value).ownBlock ∧ so k_ Ao14 t400 co14 ∧ so k_ Ao15 t403 co15 ∧ so k_ Ao17 t407 co17 ∧ so k_ Ao18 t410 co18) v429 y428) := ⟨h1_⟩
               have n2_ : Aside0 (Kd.R (Kd.int .i64) 3 w91 w.heap.size (fun k_ => some k_ ≠ (v426 : Value).ownBlock ∧ some k_ ≠ (v429 : Value).ownBlock ∧ so k_ Ao15 t403 co15 ∧ so k_ Ao17 t407 co17 ∧ so k_ Ao18 t410 co18) (.slice Ao14 t400.length co14) t400) := ⟨h2_⟩
               have n3_ : Aside0 (Kd.Q (Kd.int .i64) 3 w91 w.heap.size (fun k_ => some k_ ≠ (v426 : Value).ownBlock ∧ some k_ ≠ (v429 : Value).ownBlock ∧ so k_ Ao14 t400 co14 ∧ so k_ Ao17 t407 co17 ∧ so k_ Ao18 t410 co18) (.slice Ao15 t403.length co15) t403) := ⟨h3_⟩
               have n4_ : Aside0 (Kd.R (Kd.int .i64) 3 w91 w.heap.size (fun k_ => some k_ ≠ (v426 : Value).ownBlock ∧ some k_ ≠ (v429 : Value).ownBlock ∧ so k_ Ao14 t400 co14 ∧ so k_ Ao15 t403 co15 ∧ so k_ Ao18 t410 co18) (.slice Ao17 t407.length co17) t407) := ⟨h4_⟩
               have n5_ : Aside0 (Kd.Q (Kd.int .i64) 3 w91 w.heap.size (fun k_ => some k_ ≠ (v426 : Value).ownBlock ∧ some k_ ≠ (v429 : Value).ownBlock ∧ so k_ Ao14 t400 co14 ∧ so k_ Ao15 t403 co15 ∧ so k_ Ao17 t407 co17) (.slice Ao18 t410.length co18) t410) := ⟨h5_⟩
               have n6_ : Aside0 (Kd.N k48 48 w91 w.heap.size (fun k_ => some k_ ≠ (v426 : Value).ownBlock ∧ some k_ ≠ (v429 : Value).ownBlock ∧ so k_ Ao14 t400 co14 ∧ so k_ Ao15 t403 co15 ∧ so k_ Ao17 t407 co17 ∧ so k_ Ao18 t410 co18 ∧ k_ ≠ gb413 ∧ k_ ≠ gb414 ∧ k_ ≠ gb434) (.slice Ao19 t396.length co19) t396) := ⟨h6_⟩
               have n7_ : Aside0 (w91.heap[gb413]? = some (.cells #[.bool t399, .slice Ao14 t400.length co14, .slice Ao15 t403.length co15] 26 (0, 0))) := ⟨h7_⟩
               have n8_ : Aside0 (w91.heap[gb414]? = some (.cells #[.bool t406, .slice Ao17 t407.length co17, .slice Ao18 t410.length co18] 26 (0, 0))) := ⟨h8_⟩
               have n9_ : Aside0 (w91.heap[gb434]? = some (.cells #[.bool false, .slice none 0 0, .slice none 0 0] 26 (0, 0))) := ⟨h9_⟩
               have n10_ : Aside0 (w.heap.size ≤ gb434) := ⟨h10_⟩
               have n11_ : Aside0 (w.heap.size ≤ gb434) := ⟨h11_⟩
               have n12_ : Aside0 (gb413 ≠ gb434) := ⟨h12_⟩
               have n13_ : Aside0 (gb434 ≠ gb413) := ⟨h13_⟩
               have n14_ : Aside0 (gb414 ≠ gb434) := ⟨h14_⟩
               have n15_ : Aside0 (gb434 ≠ gb414) := ⟨h15_⟩
               have n16_ : Aside0 (Below w.heap.size w w91) := ⟨h16_⟩
               clear HO_5
               clear HO_414001
               clear HO_414002
               clear HO_415001
               clear HO_415002
               clear BK413
               clear BK414
               clear HB
               clear h0_ h1_ h2_ h3_ h4_ h5_ h6_ h7_ h8_ h9_ h10_ h11_ h12_ h13_ h14_ h15_ h16_
               have HO427 := n0_
               have HO430 := n1_
               have HO_414001 := n2_
               have HO_414002 := n3_
               have HO_415001 := n4_
               have HO_415002 := n5_
               have HO_5 := n6_
               have BK413 := n7_
               have BK414 := n8_
               have BK434 := n9_
               have GW434 := n10_
               have GE434 := n11_
               have NB413_434 := n12_
               have NB434_413 := n13_
               have NB414_434 := n14_
               have NB434_414 := n15_
               have HB := n16_
               clear n0_ n1_ n2_ n3_ n4_ n5_ n6_ n7_ n8_ n9_ n10_ n11_ n12_ n13_ n14_ n15_ n16_
               have hHeld : w91.cell? ⟨gb414, 0, none⟩ = some (.bool t406) ∧ w91.cell? ⟨gb414, 1, none⟩ = some (.slice Ao17 t407.length co17) ∧ w91.cell? ⟨gb414, 2, none⟩ = some (.slice Ao18 t410.length co18) := hS_
               refine norm_ (a' := ?_) ?_ ?_
               rotate_left
               ·simp only [putAll, Act.put, List.setIfInBounds_toArray, List.set_cons_zero, List.set_cons_succ]
                rfl
               refine one_ (i := 7) (N := some 75) #[true, true, true, true, true, true, true, true, false, true, false] rfl rfl (one_of HT_.out (by kernel_rfl)) (by decide) (fun K hK => ?_)
               refine Kd.R_append_rows_step (Kd.int .i64) (w0 := w) w.heap.size (by rfl) (.tmp 72) (.tmp 74) 24 3 (.int .i64 0) 8 rfl Try.underlying24 info3 rfl (by decide) (by omega) v429 y428 t410 _ _ _ (fun k_ => so k_ Ao14 t400 co14 ∧ so k_ Ao15 t403 co15 ∧ so k_ Ao17 t407 co17 ∧ so k_ Ao18 t410 co18 ∧ some k_ ≠ (v426 : Value).ownBlock) (fun _ => False) rfl rfl ?aO ?aR (fun _ _ h => h) (fun _ h => h.elim) ?aF ?aB ?aS ?aL ?_
               (case aR => exact (Kd.Q_reads' HO_415002.out).2.2)
               (case aB => exact bl)
               (case aF => exact (fun k_ hk => ⟨Kd.fresh' (Kd.R_lt HO_414001.out) k_ hk, Kd.fresh' (Kd.Q_lt HO_414002.out) k_ hk, Kd.fresh' (Kd.R_lt HO_415001.out) k_ hk, Kd.fresh' (Kd.Q_lt HO_415002.out) k_ hk, Kd.fresh' (Kd.R_lt HO427.out) k_ hk⟩))
               (case aO => exact (Kd.R_mono HO430.out (fun _ hk => ⟨hk.2.1, ⟨hk.2.2.1, ⟨hk.2.2.2.1, ⟨hk.2.2.2.2, hk.1⟩⟩⟩⟩)))
               (case aS => exact (below_size bl))
               (case aL => have := LMc74.out; omega)
               intro v432 w92 ho hb hg hat
               rw [← Ny431.out] at ho
               have n0_ := Aside0.mk (Kd.N_afterv (ok := (fun k_ => so k_ Ao14 t400 co14 ∧ so k_ Ao15 t403 co15 ∧ so k_ Ao17 t407 co17 ∧ so k_ Ao18 t410 co18 ∧ some k_ ≠ (v426 : Value).ownBlock ∧ k_ ≠ gb413 ∧ k_ ≠ gb414 ∧ k_ ≠ gb434)) (Kd.N_mono HO_5.out (fun _ hk => ⟨⟨hk.2.2.1, ⟨hk.2.2.2.1, ⟨hk.2.2.2.2.1, ⟨hk.2.2.2.2.2.1, ⟨hk.1, ⟨hk.2.2.2.2.2.2.1, ⟨hk.2.2.2.2.2.2.2.1, hk.2.2.2.2.2.2.2.2⟩⟩⟩⟩⟩⟩⟩, hk.2.1⟩)) hg hat)
               have n1_ := Aside0.mk (Kd.R_after (ok := (fun k_ => so k_ Ao15 t403 co15 ∧ so k_ Ao17 t407 co17 ∧ so k_ Ao18 t410 co18 ∧ some k_ ≠ (v426 : Value).ownBlock)) (Kd.R_mono HO_414001.out (fun _ hk => ⟨⟨hk.2.2.1, ⟨hk.2.2.2.1, ⟨hk.2.2.2.2, hk.1⟩⟩⟩, hk.2.1⟩)) hg hat)
               have n2_ := Aside0.mk (Kd.Q_after (ok := (fun k_ => so k_ Ao14 t400 co14 ∧ so k_ Ao17 t407 co17 ∧ so k_ Ao18 t410 co18 ∧ some k_ ≠ (v426 : Value).ownBlock)) (Kd.Q_mono HO_414002.out (fun _ hk => ⟨⟨hk.2.2.1, ⟨hk.2.2.2.1, ⟨hk.2.2.2.2, hk.1⟩⟩⟩, hk.2.1⟩)) hg hat)
               have n3_ := Aside0.mk (Kd.R_after (ok := (fun k_ => so k_ Ao14 t400 co14 ∧ so k_ Ao15 t403 co15 ∧ so k_ Ao18 t410 co18 ∧ some k_ ≠ (v426 : Value).ownBlock)) (Kd.R_mono HO_415001.out (fun _ hk => ⟨⟨hk.2.2.1, ⟨hk.2.2.2.1, ⟨hk.2.2.2.2, hk.1⟩⟩⟩, hk.2.1⟩)) hg hat)
               have n4_ := Aside0.mk (Kd.Q_after (ok := (fun k_ => so k_ Ao14 t400 co14 ∧ so k_ Ao15 t403 co15 ∧ so k_ Ao17 t407 co17 ∧ some k_ ≠ (v426 : Value).ownBlock)) (Kd.Q_mono HO_415002.out (fun _ hk => ⟨⟨hk.2.2.1, ⟨hk.2.2.2.1, ⟨hk.2.2.2.2, hk.1⟩⟩⟩, hk.2.1⟩)) hg hat)
               have n5_ := Aside0.mk (blk_grown (g := gb413) (o := .cells #[.bool t399, .slice Ao14 t400.length co14, .slice Ao15 t403.length co15] 26 (0, 0)) BK413.out hg (Kd.R_ne HO430.out BK413.out (by decide)))
               have n6_ := Aside0.mk (blk_grown (g := gb414) (o := .cells #[.bool t406, .slice Ao17 t407.length co17, .slice Ao18 t410.length co18] 26 (0, 0)) BK414.out hg (Kd.R_ne HO430.out BK414.out (by decide)))
               have n7_ := Aside0.mk (Kd.R_after (ok := (fun k_ => so k_ Ao14 t400 co14 ∧ so k_ Ao15 t403 co15 ∧ so k_ Ao17 t407 co17 ∧ so k_ Ao18 t410 co18)) (Kd.R_mono HO427.out (fun _ hk => ⟨⟨hk.2.1, ⟨hk.2.2.1, ⟨hk.2.2.2.1, hk.2.2.2.2⟩⟩⟩, hk.1⟩)) hg hat)
               have n8_ := Aside0.mk (blk_grown (g := gb434) (o := .cells #[.bool false, .slice none 0 0, .slice none 0 0] 26 (0, 0)) BK434.out hg (Kd.R_ne HO430.out BK434.out (by decide)))
               have n9_ := Aside0.mk (hb)
               have n10_ := Aside0.mk (ho)
               clear HO_5
               clear HO_414001
               clear HO_414002
               clear HO_415001
               clear HO_415002
               clear BK413
               clear BK414
               clear HO427
               clear BK434
               clear HB
               clear HO430
               have HO_5 := n0_
               have HO_414001 := n1_
               have HO_414002 := n2_
               have HO_415001 := n3_
               have HO_415002 := n4_
               have BK413 := n5_
               have BK414 := n6_
               have HO427 := n7_
               have BK434 := n8_
               have HB := n9_
               have HO433 := n10_
               clear n0_ n1_ n2_ n3_ n4_ n5_ n6_ n7_ n8_ n9_ n10_
               clear ho hb hg hat
               obtain ⟨Ao93, co93, eo93⟩ := Kd.R_slice HO433.out
               (first | subst eo93 | (injection eo93 with f1_ f2_ f3_; have f4_ := f1_.symm; have f5_ := f3_.symm; clear f1_ f2_ f3_; subst f4_; subst f5_))
               obtain ⟨Ao94, co94, eo94⟩ := Kd.R_slice HO427.out
               (first | subst eo94 | (injection eo94 with f1_ f2_ f3_; have f4_ := f1_.symm; have f5_ := f3_.symm; clear f1_ f2_ f3_; subst f4_; subst f5_))
               refine hK.out _ _ ⟨(blk_cell BK414.out 0).trans rfl, (blk_cell BK414.out 1).trans rfl, (blk_cell BK414.out 2).trans rfl⟩ (fun hHeld => ?_)
               clear hK K
               refine no 75 ?_
               refine pu 8 76 #[true, true, true, true, true, true, true, true, true, true, false] HT_ rfl rfl ?_
               exact norm_ (by first | (simp only [putAll, Act.put, List.setIfInBounds_toArray, List.set_cons_zero, List.set_cons_succ]; done) | (simp only [putAll, Act.put, List.setIfInBounds_toArray, List.set_cons_zero, List.set_cons_succ]; rfl)) (hJ0_3_4_7_9 (v423, .slice Ao94 y425.length co94, v429, .slice Ao93 y431.length co93, gb434) _ ⟨hHeld, (Kd.R_mono HO427.out (fun _ hk => ⟨hk.2, ⟨hk.1.1, ⟨hk.1.2.1, ⟨hk.1.2.2.1, hk.1.2.2.2⟩⟩⟩⟩)), (Kd.R_mono HO433.out (fun _ hk => ⟨hk.2.2.2.2, ⟨hk.1, ⟨hk.2.1, ⟨hk.2.2.1, hk.2.2.2.1⟩⟩⟩⟩)), (Kd.R_mono HO_414001.out (fun _ hk => ⟨hk.1.2.2.2, ⟨hk.2, ⟨hk.1.1, ⟨hk.1.2.1, hk.1.2.2.1⟩⟩⟩⟩)), (Kd.Q_mono HO_414002.out (fun _ hk => ⟨hk.1.2.2.2, ⟨hk.2, ⟨hk.1.1, ⟨hk.1.2.1, hk.1.2.2.1⟩⟩⟩⟩)), (Kd.R_mono HO_415001.out (fun _ hk => ⟨hk.1.2.2.2, ⟨hk.2, ⟨hk.1.1, ⟨hk.1.2.1, hk.1.2.2.1⟩⟩⟩⟩)), (Kd.Q_mono HO_415002.out (fun _ hk => ⟨hk.1.2.2.2, ⟨hk.2, ⟨hk.1.1, ⟨hk.1.2.1, hk.1.2.2.1⟩⟩⟩⟩)), (Kd.N_mono HO_5.out (fun _ hk => ⟨hk.1.2.2.2.2.1, ⟨hk.2, ⟨hk.1.1, ⟨hk.1.2.1, ⟨hk.1.2.2.1, ⟨hk.1.2.2.2.1, ⟨hk.1.2.2.2.2.2.1, ⟨hk.1.2.2.2.2.2.2.1, hk.1.2.2.2.2.2.2.2⟩⟩⟩⟩⟩⟩⟩⟩)), BK413.out, BK414.out, BK434.out, GW434.out, GE434.out, NB413_434.out, NB434_413.out, NB414_434.out, NB434_414.out, bl⟩)
             ·skip
              rintro ⟨v423, v426, v429, v432⟩ w93 ⟨hS_, h0_, h1_, h2_, h3_, h4_, h5_, h6_, h7_, h8_, h9_⟩
              have n0_ : Aside0 (Kd.R (Kd.int .i64) 3 w93 w.heap.size (fun k_ => some k_ ≠ (v432 : Value).ownBlock ∧ so k_ Ao14 t400 co14 ∧ so k_ Ao15 t403 co15 ∧ so k_ Ao17 t407 co17 ∧ so k_ Ao18 t410 co18) v426 y425) := ⟨h0_⟩
              have n1_ : Aside0 (Kd.R (Kd.int .i64) 3 w93 w.heap.size (fun k_ => some k_ ≠ (v426 : Value).ownBlock ∧ so k_ Ao14 t400 co14 ∧ so k_ Ao15 t403 co15 ∧ so k_ Ao17 t407 co17 ∧ so k_ Ao18 t410 co18) v432 y431) := ⟨h1_⟩
              have n2_ : Aside0 (Kd.R (Kd.int .i64) 3 w93 w.heap.size (fun k_ => some k_ ≠ (v426 : Value).ownBlock ∧ some k_ ≠ (v432 : Value).ownBlock ∧ so k_ Ao15 t403 co15 ∧ so k_ Ao17 t407 co17 ∧ so k_ Ao18 t410 co18) (.slice Ao14 t400.length co14) t400) := ⟨h2_⟩
              have n3_ : Aside0 (Kd.Q (Kd.int .i64) 3 w93 w.heap.size (fun k_ => some k_ ≠ (v426 : Value).ownBlock ∧ some k_ ≠ (v432 : Value).ownBlock ∧ so k_ Ao14 t400 co14 ∧ so k_ Ao17 t407 co17 ∧ so k_ Ao18 t410 co18) (.slice Ao15 t403.length co15) t403) := ⟨h3_⟩
              have n4_ : Aside0 (Kd.R (Kd.int .i64) 3 w93 w.heap.size (fun k_ => some k_ ≠ (v426 : Value).ownBlock ∧ some k_ ≠ (v432 : Value).ownBlock ∧ so k_ Ao14 t400 co14 ∧ so k_ Ao15 t403 co15 ∧ so k_ Ao18 t410 co18) (.slice Ao17 t407.length co17) t407) := ⟨h4_⟩
              have n5_ : Aside0 (Kd.Q (Kd.int .i64) 3 w93 w.heap.size (fun k_ => some k_ ≠ (v426 : Value).ownBlock ∧ some k_ ≠ (v432 : Value).ownBlock ∧ so k_ Ao14 t400 co14 ∧ so k_ Ao15 t403 co15 ∧ so k_ Ao17 t407 co17) (.slice Ao18 t410.length co18) t410) := ⟨h5_⟩
              have n6_ : Aside0 (Kd.N k48 48 w93 w.heap.size (fun k_ => some k_ ≠ (v426 : Value).ownBlock ∧ some k_ ≠ (v432 : Value).ownBlock ∧ so k_ Ao14 t400 co14 ∧ so k_ Ao15 t403 co15 ∧ so k_ Ao17 t407 co17 ∧ so k_ Ao18 t410 co18 ∧ k_ ≠ gb413 ∧ k_ ≠ gb414) (.slice Ao19 t396.length co19) t396) := ⟨h6_⟩
              have n7_ : Aside0 (w93.heap[gb413]? = some (.cells #[.bool t399, .slice Ao14 t400.length co14, .slice Ao15 t403.length co15] 26 (0, 0))) := ⟨h7_⟩
              have n8_ : Aside0 (w93.heap[gb414]? = some (.cells #[.bool t406, .slice Ao17 t407.length co17, .slice Ao18 t410.length co18] 26 (0, 0))) := ⟨h8_⟩
              have n9_ : Aside0 (Below w.heap.size w w93) := ⟨h9_⟩
              clear HO_5
              clear HO_414001
              clear HO_414002
              clear HO_415001
              clear HO_415002
              clear BK413
              clear BK414
              clear HB
              clear h0_ h1_ h2_ h3_ h4_ h5_ h6_ h7_ h8_ h9_
              have HO427 := n0_
              have HO433 := n1_
              have HO_414001 := n2_
              have HO_414002 := n3_
              have HO_415001 := n4_
              have HO_415002 := n5_
              have HO_5 := n6_
              have BK413 := n7_
              have BK414 := n8_
              have HB := n9_
              clear n0_ n1_ n2_ n3_ n4_ n5_ n6_ n7_ n8_ n9_
              have hHeld : w93.cell? ⟨gb414, 0, none⟩ = some (.bool t406) ∧ w93.cell? ⟨gb414, 1, none⟩ = some (.slice Ao17 t407.length co17) ∧ w93.cell? ⟨gb414, 2, none⟩ = some (.slice Ao18 t410.length co18) := hS_
              obtain ⟨Ao94, co94, eo94⟩ := Kd.R_slice HO433.out
              (first | subst eo94 | (injection eo94 with f1_ f2_ f3_; have f4_ := f1_.symm; have f5_ := f3_.symm; clear f1_ f2_ f3_; subst f4_; subst f5_))
              obtain ⟨Ao95, co95, eo95⟩ := Kd.R_slice HO427.out
              (first | subst eo95 | (injection eo95 with f1_ f2_ f3_; have f4_ := f1_.symm; have f5_ := f3_.symm; clear f1_ f2_ f3_; subst f4_; subst f5_))
              refine norm_ (a' := ?_) ?_ ?_
              rotate_left
              ·simp only [putAll, Act.put, List.setIfInBounds_toArray, List.set_cons_zero, List.set_cons_succ]
               rfl
              refine one_ (i := 9) (N := some 9) #[true, true, true, true, true, true, true, true, true, true, false] rfl rfl (one_of HT_.out (by kernel_rfl)) (by decide) (fun K hK => ?_)
              refine box_step ?hg (N := 9) ?hd (cs := #[.bool false, .slice none 0 0, .slice none 0 0]) (t := 26) ?hr ?_; (case hd => rfl); (case hg => rfl); (case hr => first | (go_simp; done) | (go_simp; rfl))
              intro gb434 hg w96 hbox hb
              have BK434 := Aside0.mk hbox
              have GW434 := hz HB hg
              have GE434 := hz HB hg
              have NB413_434 := nl BK413 hg
              have NB434_413 := ng BK413 hg
              have NB414_434 := nl BK414 hg
              have NB434_414 := ng BK414 hg
              replace HO_5 := Aside0.mk (Kd.N_below (Kd.N_elderB HO_5.out gb434 (Nat.le_of_eq hg.symm)) hb)
              replace HO_414001 := rb HO_414001 hb
              replace HO_414002 := qb HO_414002 hb
              replace HO_415001 := rb HO_415001 hb
              replace HO_415002 := qb HO_415002 hb
              replace HO427 := rb HO427 hb
              replace HO433 := rb HO433 hb
              replace BK413 := kb BK413 hb
              replace BK414 := kb BK414 hb
              replace HB := hs HB hb
              clear hb hbox hg
              refine hK.out _ _ ⟨(blk_cell BK414.out 0).trans rfl, (blk_cell BK414.out 1).trans rfl, (blk_cell BK414.out 2).trans rfl⟩ (fun hHeld => ?_)
              clear hK K
              refine no 9 ?_
              exact norm_ (by first | (simp only [putAll, Act.put, List.setIfInBounds_toArray, List.set_cons_zero, List.set_cons_succ]; done) | (simp only [putAll, Act.put, List.setIfInBounds_toArray, List.set_cons_zero, List.set_cons_succ]; rfl)) (hJ0_3_4_7_9 (v423, .slice Ao95 y425.length co95, v429, .slice Ao94 y431.length co94, gb434) _ ⟨hHeld, HO427.out, HO433.out, HO_414001.out, HO_414002.out, HO_415001.out, HO_415002.out, (Kd.N_mono HO_5.out (fun _ hk => ⟨hk.1.1, ⟨hk.1.2.1, ⟨hk.1.2.2.1, ⟨hk.1.2.2.2.1, ⟨hk.1.2.2.2.2.1, ⟨hk.1.2.2.2.2.2.1, ⟨hk.1.2.2.2.2.2.2.1, ⟨hk.1.2.2.2.2.2.2.2, hk.2⟩⟩⟩⟩⟩⟩⟩⟩)), BK413.out, BK414.out, BK434.out, GW434.out, GE434.out, NB413_434.out, NB434_413.out, NB414_434.out, NB434_414.out, bl⟩)
            rintro ⟨v423, v426, v429, v432, gb434⟩ w94 ⟨hS_, h0_, h1_, h2_, h3_, h4_, h5_, h6_, h7_, h8_, h9_, h10_, h11_, h12_, h13_, h14_, h15_, h16_⟩
            have n0_ : Aside0 (Kd.R (Kd.int .i64) 3 w94 w.heap.size (fun k_ => some k_ ≠ (v432 : Value).ownBlock ∧ so k_ Ao14 t400 co14 ∧ so k_ Ao15 t403 co15 ∧ so k_ Ao17 t407 co17 ∧ so k_ Ao18 t410 co18) v426 y425) := ⟨h0_⟩
            have n1_ : Aside0 (Kd.R (Kd.int .i64) 3 w94 w.heap.size (fun k_ => some k_ ≠ (v426 : Value).ownBlock ∧ so k_ Ao14 t400 co14 ∧ so k_ Ao15 t403 co15 ∧ so k_ Ao17 t407 co17 ∧ so k_ Ao18 t410 co18) v432 y431) := ⟨h1_⟩
            have n2_ : Aside0 (Kd.R (Kd.int .i64) 3 w94 w.heap.size (fun k_ => some k_ ≠ (v426 : Value).ownBlock ∧ some k_ ≠ (v432 : Value).ownBlock ∧ so k_ Ao15 t403 co15 ∧ so k_ Ao17 t407 co17 ∧ so k_ Ao18 t410 co18) (.slice Ao14 t400.length co14) t400) := ⟨h2_⟩
            have n3_ : Aside0 (Kd.Q (Kd.int .i64) 3 w94 w.heap.size (fun k_ => some k_ ≠ (v426 : Value).ownBlock ∧ some k_ ≠ (v432 : Value).ownBlock ∧ so k_ Ao14 t400 co14 ∧ so k_ Ao17 t407 co17 ∧ so k_ Ao18 t410 co18) (.slice Ao15 t403.length co15) t403) := ⟨h3_⟩
            have n4_ : Aside0 (Kd.R (Kd.int .i64) 3 w94 w.heap.size (fun k_ => some k_ ≠ (v426 : Value).ownBlock ∧ some k_ ≠ (v432 : Value).ownBlock ∧ so k_ Ao14 t400 co14 ∧ so k_ Ao15 t403 co15 ∧ so k_ Ao18 t410 co18) (.slice Ao17 t407.length co17) t407) := ⟨h4_⟩
            have n5_ : Aside0 (Kd.Q (Kd.int .i64) 3 w94 w.heap.size (fun k_ => some k_ ≠ (v426 : Value).ownBlock ∧ some k_ ≠ (v432 : Value).ownBlock ∧ so k_ Ao14 t400 co14 ∧ so k_ Ao15 t403 co15 ∧ so k_ Ao17 t407 co17) (.slice Ao18 t410.length co18) t410) := ⟨h5_⟩
            have n6_ : Aside0 (Kd.N k48 48 w94 w.heap.size (fun k_ => some k_ ≠ (v426 : Value).ownBlock ∧ some k_ ≠ (v432 : Value).ownBlock ∧ so k_ Ao14 t400 co14 ∧ so k_ Ao15 t403 co15 ∧ so k_ Ao17 t407 co17 ∧ so k_ Ao18 t410 co18 ∧ k_ ≠ gb413 ∧ k_ ≠ gb414 ∧ k_ ≠ gb434) (.slice Ao19 t396.length co19) t396) := ⟨h6_⟩
            have n7_ : Aside0 (w94.heap[gb413]? = some (.cells #[.bool t399, .slice Ao14 t400.length co14, .slice Ao15 t403.length co15] 26 (0, 0))) := ⟨h7_⟩
            have n8_ : Aside0 (w94.heap[gb414]? = some (.cells #[.bool t406, .slice Ao17 t407.length co17, .slice Ao18 t410.length co18] 26 (0, 0))) := ⟨h8_⟩
            have n9_ : Aside0 (w94.heap[gb434]? = some (.cells #[.bool false, .slice none 0 0, .slice none 0 0] 26 (0, 0))) := ⟨h9_⟩
            have n10_ : Aside0 (w.heap.size ≤ gb434) := ⟨h10_⟩
            have n11_ : Aside0 (w.heap.size ≤ gb434) := ⟨h11_⟩
            have n12_ : Aside0 (gb413 ≠ gb434) := ⟨h12_⟩
            have n13_ : Aside0 (gb434 ≠ gb413) := ⟨h13_⟩
            have n14_ : Aside0 (gb414 ≠ gb434) := ⟨h14_⟩
            have n15_ : Aside0 (gb434 ≠ gb414) := ⟨h15_⟩
            have n16_ : Aside0 (Below w.heap.size w w94) := ⟨h16_⟩
            clear HO_5
            clear HO_414001
            clear HO_414002
            clear HO_415001
            clear HO_415002
            clear BK413
            clear BK414
            clear HB
            clear h0_ h1_ h2_ h3_ h4_ h5_ h6_ h7_ h8_ h9_ h10_ h11_ h12_ h13_ h14_ h15_ h16_
            have HO427 := n0_
            have HO433 := n1_
            have HO_414001 := n2_
            have HO_414002 := n3_
            have HO_415001 := n4_
            have HO_415002 := n5_
            have HO_5 := n6_
            have BK413 := n7_
            have BK414 := n8_
            have BK434 := n9_
            have GW434 := n10_
            have GE434 := n11_
            have NB413_434 := n12_
            have NB434_413 := n13_
            have NB414_434 := n14_
            have NB434_414 := n15_
            have HB := n16_
            clear n0_ n1_ n2_ n3_ n4_ n5_ n6_ n7_ n8_ n9_ n10_ n11_ n12_ n13_ n14_ n15_ n16_
            have hHeld : w94.cell? ⟨gb414, 0, none⟩ = some (.bool t406) ∧ w94.cell? ⟨gb414, 1, none⟩ = some (.slice Ao17 t407.length co17) ∧ w94.cell? ⟨gb414, 2, none⟩ = some (.slice Ao18 t410.length co18) := hS_
            obtain ⟨Ao95, co95, eo95⟩ := Kd.R_slice HO433.out
            (first | subst eo95 | (injection eo95 with f1_ f2_ f3_; have f4_ := f1_.symm; have f5_ := f3_.symm; clear f1_ f2_ f3_; subst f4_; subst f5_))
            obtain ⟨Ao96, co96, eo96⟩ := Kd.R_slice HO427.out
            (first | subst eo96 | (injection eo96 with f1_ f2_ f3_; have f4_ := f1_.symm; have f5_ := f3_.symm; clear f1_ f2_ f3_; subst f4_; subst f5_))
            refine norm_ (a' := ?_) ?_ ?_
            rotate_left
            ·simp only [putAll, Act.put, List.setIfInBounds_toArray, List.set_cons_zero, List.set_cons_succ]
             rfl
            refine one_ (i := 10) (N := none) #[true, true, true, true, true, true, true, true, true, true, true] rfl rfl (one_of HT_.out (by kernel_rfl)) (by decide) (fun K hK => ?_)
            have hs97 : w94.cell? ⟨gb434, 0, none⟩ = some (.bool false) := (blk_cell BK434.out 0).trans rfl
            have hfs97 := blk_frozen BK434.out 0
            have hns97_0 := NB413_434.out
            have hns97_1 := NB414_434.out
            have hms97_0 := NB434_413.out
            have hms97_1 := NB434_414.out
            have hs98 : w94.cell? ⟨gb434, 1, none⟩ = some (.slice none 0 0) := (blk_cell BK434.out 1).trans rfl
            have hfs98 := blk_frozen BK434.out 1
            have hns98_0 := NB413_434.out
            have hns98_1 := NB414_434.out
            have hms98_0 := NB434_413.out
            have hms98_1 := NB434_414.out
            have hs99 : w94.cell? ⟨gb434, 2, none⟩ = some (.slice none 0 0) := (blk_cell BK434.out 2).trans rfl
            have hfs99 := blk_frozen BK434.out 2
            have hns99_0 := NB413_434.out
            have hns99_1 := NB414_434.out
            have hms99_0 := NB434_413.out
            have hms99_1 := NB434_414.out
            refine skip_ (w1 := ?_) (by rfl) rfl ?_ ?_
            rotate_left
            ·go_simp
             rfl
            refine hK.out _ _ ⟨((cell_far (p := ⟨gb434, _, none⟩) NB414_434.out _).trans (((cell_far (p := ⟨gb434, _, none⟩) NB414_434.out _).trans (((cell_far (p := ⟨gb434, _, none⟩) NB414_434.out _).trans (hHeld.1)))))), ((cell_far (p := ⟨gb434, _, none⟩) NB414_434.out _).trans (((cell_far (p := ⟨gb434, _, none⟩) NB414_434.out _).trans (((cell_far (p := ⟨gb434, _, none⟩) NB414_434.out _).trans (hHeld.2.1)))))), ((cell_far (p := ⟨gb434, _, none⟩) NB414_434.out _).trans (((cell_far (p := ⟨gb434, _, none⟩) NB414_434.out _).trans (((cell_far (p := ⟨gb434, _, none⟩) NB414_434.out _).trans (hHeld.2.2))))))⟩ (fun hHeld => ?_)
            clear hK K
            refine done_ (done_of HT_.out (by kernel_rfl)) ?_
            have H := HA9.out
            clear HA9
            by_cases c75 : (y425.length : Int) > 0
            ·rw [if_pos c75] at H
             have c75b0 : decide (0 < (y425.length : Int)) = true := decide_eq_true c75
             have c75b1 : decide (0 < y425.length) = true := decide_eq_true (by omega)
             clear c75
             by_cases c76 : (y425.length : Int) = 0
             ·rw [if_pos c76] at H
              exact absurd H (by simp)
             ·rw [if_neg c76] at H
              have c76b0 := beq_eq_false_iff_ne.mpr c76
              have c76b1 := bne_iff_ne.mpr c76
              have c76b2 : ¬ (y425 = []) := fun h_ => c76 (by rw [h_]; rfl)
              obtain ⟨ji77, hji77⟩ : ∃ j_ : Int, ((l1.length : Int) % (y425.length : Int)) = j_ := ⟨_, rfl⟩
              have ht_ji77 : Int.tmod (l1.length : Int) (y425.length : Int) = ji77 := by rw [← hji77]; exact Int.tmod_eq_emod_of_nonneg (by omega)
              replace H : (if 0 ≤ (ji77) then (if (ji77) < (y425.length : Int) then ((some (y425.set ((ji77) : Int).toNat 0 : List Int)).bind fun y435 => ((impl_ShapeIn.f kj36 t396 t406 t407 t410 true y435 y431).bind fun t436 => (if t436 = true then ((impl_ShapeIn.f kj36 t396 t399 t400 t403 true y435 y431).bind fun t437 => (some t437)) else (some false)))) else (none)) else (none)) = some r := by first | (rw [hji77] at H; exact H) | (simp only [hji77] at H ⊢; exact H)
              by_cases c78 : 0 ≤ (ji77)
              ·rw [if_pos c78] at H
               have c78b0 : decide (0 ≤ (ji77)) = true := decide_eq_true c78
               clear c78
               by_cases c79 : (ji77) < (y425.length : Int)
               ·rw [if_pos c79] at H
                have c79b0 : decide ((ji77) < (y425.length : Int)) = true := decide_eq_true c79
                clear c79
                obtain ⟨y435, hy435⟩ : ∃ y_ : List Int, y_ = (y425.set ((ji77) : Int).toNat 0) := ⟨_, rfl⟩
                replace H : ((impl_ShapeIn.f kj36 t396 t406 t407 t410 true y435 y431).bind fun t436 => (if t436 = true then ((impl_ShapeIn.f kj36 t396 t399 t400 t403 true y435 y431).bind fun t437 => (some t437)) else (some false))) = some r := by first | (rw [hy435]; with_reducible exact H) | (have H2_ := (Option.bind_some _ _).symm.trans H; rw [hy435]; with_reducible exact H2_) | (have H2_ := (Option.bind_some _ _).symm.trans H; with_reducible exact H2_) | with_reducible exact H | (rw [hy435]; exact H) | exact H
                have Ny435 := Aside0.mk hy435
                clear hy435
                obtain ⟨t436, A81, H⟩ := ob H
                by_cases c82 : t436 = true
                ·subst c82
                 replace H := it H
                 obtain ⟨t437, A83, H⟩ := ob H
                 obtain rfl := Option.some.inj H; clear H
                 have hnb100 := NB434_413.out
                 have hnc100 := NB413_434.out
                 have hnb101 := NB434_414.out
                 have hnc101 := NB414_434.out
                 obtain ⟨_,_,_,_,_,_⟩ := cf3 BK434
                 try go_wp2
                 have n0_ : Aside0 (Kd.N k48 48 (((w94.setCell ⟨gb434, 0, none⟩ (.bool true)).setCell ⟨gb434, 1, none⟩ (.slice Ao96 y425.length co96)).setCell ⟨gb434, 2, none⟩ (.slice Ao95 y431.length co95)) w.heap.size (fun k_ => so k_ Ao14 t400 co14 ∧ so k_ Ao15 t403 co15 ∧ so k_ Ao17 t407 co17 ∧ so k_ Ao18 t410 co18 ∧ so k_ Ao96 y425 co96 ∧ so k_ Ao95 y431 co95 ∧ k_ ≠ gb413 ∧ k_ ≠ gb414 ∧ k_ ≠ gb434) (.slice Ao19 t396.length co19) t396) := ⟨by exact Kd.N_mono (Kd.N_far (p := ⟨gb434, 2, none⟩) (Kd.N_far (p := ⟨gb434, 1, none⟩) (Kd.N_far (p := ⟨gb434, 0, none⟩) (Kd.N_mono HO_5.out (fun k_ hk => (⟨hk, hk.2.2.2.2.2.2.2.2⟩ : _ ∧ k_ ≠ gb434))) (fun _ hk => hk.2) (.bool true)) (fun _ hk => hk.2) (.slice Ao96 y425.length co96)) (fun _ hk => hk.2) (.slice Ao95 y431.length co95)) (fun _ hk => ⟨hk.1.2.2.1, ⟨hk.1.2.2.2.1, ⟨hk.1.2.2.2.2.1, ⟨hk.1.2.2.2.2.2.1, ⟨hk.1.1, ⟨hk.1.2.1, ⟨hk.1.2.2.2.2.2.2.1, ⟨hk.1.2.2.2.2.2.2.2.1, hk.1.2.2.2.2.2.2.2.2⟩⟩⟩⟩⟩⟩⟩⟩)⟩
                 have n1_ : Aside0 (Kd.R (Kd.int .i64) 3 (((w94.setCell ⟨gb434, 0, none⟩ (.bool true)).setCell ⟨gb434, 1, none⟩ (.slice Ao96 y425.length co96)).setCell ⟨gb434, 2, none⟩ (.slice Ao95 y431.length co95)) w.heap.size (fun k_ => so k_ Ao15 t403 co15 ∧ so k_ Ao17 t407 co17 ∧ so k_ Ao18 t410 co18 ∧ so k_ Ao96 y425 co96 ∧ so k_ Ao95 y431 co95) (.slice Ao14 t400.length co14) t400) := ⟨by exact Kd.R_mono (Kd.R_far (p := ⟨gb434, 2, none⟩) (Kd.R_far (p := ⟨gb434, 1, none⟩) (Kd.R_far (p := ⟨gb434, 0, none⟩) (Kd.R_types HO_414001.out BK434.out (by decide)) (fun _ hk => hk.2) (.bool true)) (fun _ hk => hk.2) (.slice Ao96 y425.length co96)) (fun _ hk => hk.2) (.slice Ao95 y431.length co95)) (fun _ hk => ⟨hk.1.2.2.1, ⟨hk.1.2.2.2.1, ⟨hk.1.2.2.2.2, ⟨hk.1.1, hk.1.2.1⟩⟩⟩⟩)⟩
                 have n2_ : Aside0 (Kd.Q (Kd.int .i64) 3 (((w94.setCell ⟨gb434, 0, none⟩ (.bool true)).setCell ⟨gb434, 1, none⟩ (.slice Ao96 y425.length co96)).setCell ⟨gb434, 2, none⟩ (.slice Ao95 y431.length co95)) w.heap.size (fun k_ => so k_ Ao14 t400 co14 ∧ so k_ Ao17 t407 co17 ∧ so k_ Ao18 t410 co18 ∧ so k_ Ao96 y425 co96 ∧ so k_ Ao95 y431 co95) (.slice Ao15 t403.length co15) t403) := ⟨by exact Kd.Q_mono (Kd.Q_far (p := ⟨gb434, 2, none⟩) (Kd.Q_far (p := ⟨gb434, 1, none⟩) (Kd.Q_far (p := ⟨gb434, 0, none⟩) (Kd.Q_types HO_414002.out BK434.out (by decide)) (fun _ hk => hk.2) (.bool true)) (fun _ hk => hk.2) (.slice Ao96 y425.length co96)) (fun _ hk => hk.2) (.slice Ao95 y431.length co95)) (fun _ hk => ⟨hk.1.2.2.1, ⟨hk.1.2.2.2.1, ⟨hk.1.2.2.2.2, ⟨hk.1.1, hk.1.2.1⟩⟩⟩⟩)⟩
                 have n3_ : Aside0 (Kd.R (Kd.int .i64) 3 (((w94.setCell ⟨gb434, 0, none⟩ (.bool true)).setCell ⟨gb434, 1, none⟩ (.slice Ao96 y425.length co96)).setCell ⟨gb434, 2, none⟩ (.slice Ao95 y431.length co95)) w.heap.size (fun k_ => so k_ Ao14 t400 co14 ∧ so k_ Ao15 t403 co15 ∧ so k_ Ao18 t410 co18 ∧ so k_ Ao96 y425 co96 ∧ so k_ Ao95 y431 co95) (.slice Ao17 t407.length co17) t407) := ⟨by exact Kd.R_mono (Kd.R_far (p := ⟨gb434, 2, none⟩) (Kd.R_far (p := ⟨gb434, 1, none⟩) (Kd.R_far (p := ⟨gb434, 0, none⟩) (Kd.R_types HO_415001.out BK434.out (by decide)) (fun _ hk => hk.2) (.bool true)) (fun _ hk => hk.2) (.slice Ao96 y425.length co96)) (fun _ hk => hk.2) (.slice Ao95 y431.length co95)) (fun _ hk => ⟨hk.1.2.2.1, ⟨hk.1.2.2.2.1, ⟨hk.1.2.2.2.2, ⟨hk.1.1, hk.1.2.1⟩⟩⟩⟩)⟩
                 have n4_ : Aside0 (Kd.Q (Kd.int .i64) 3 (((w94.setCell ⟨gb434, 0, none⟩ (.bool true)).setCell ⟨gb434, 1, none⟩ (.slice Ao96 y425.length co96)).setCell ⟨gb434, 2, none⟩ (.slice Ao95 y431.length co95)) w.heap.size (fun k_ => so k_ Ao14 t400 co14 ∧ so k_ Ao15 t403 co15 ∧ so k_ Ao17 t407 co17 ∧ so k_ Ao96 y425 co96 ∧ so k_ Ao95 y431 co95) (.slice Ao18 t410.length co18) t410) := ⟨by exact Kd.Q_mono (Kd.Q_far (p := ⟨gb434, 2, none⟩) (Kd.Q_far (p := ⟨gb434, 1, none⟩) (Kd.Q_far (p := ⟨gb434, 0, none⟩) (Kd.Q_types HO_415002.out BK434.out (by decide)) (fun _ hk => hk.2) (.bool true)) (fun _ hk => hk.2) (.slice Ao96 y425.length co96)) (fun _ hk => hk.2) (.slice Ao95 y431.length co95)) (fun _ hk => ⟨hk.1.2.2.1, ⟨hk.1.2.2.2.1, ⟨hk.1.2.2.2.2, ⟨hk.1.1, hk.1.2.1⟩⟩⟩⟩)⟩
                 have n5_ : Aside0 (Kd.R (Kd.int .i64) 3 (((w94.setCell ⟨gb434, 0, none⟩ (.bool true)).setCell ⟨gb434, 1, none⟩ (.slice Ao96 y425.length co96)).setCell ⟨gb434, 2, none⟩ (.slice Ao95 y431.length co95)) w.heap.size (fun k_ => so k_ Ao14 t400 co14 ∧ so k_ Ao15 t403 co15 ∧ so k_ Ao17 t407 co17 ∧ so k_ Ao18 t410 co18 ∧ so k_ Ao95 y431 co95) (.slice Ao96 y425.length co96) y425) := ⟨by exact Kd.R_mono (Kd.R_far (p := ⟨gb434, 2, none⟩) (Kd.R_far (p := ⟨gb434, 1, none⟩) (Kd.R_far (p := ⟨gb434, 0, none⟩) (Kd.R_types HO427.out BK434.out (by decide)) (fun _ hk => hk.2) (.bool true)) (fun _ hk => hk.2) (.slice Ao96 y425.length co96)) (fun _ hk => hk.2) (.slice Ao95 y431.length co95)) (fun _ hk => ⟨hk.1.2.1, ⟨hk.1.2.2.1, ⟨hk.1.2.2.2.1, ⟨hk.1.2.2.2.2, hk.1.1⟩⟩⟩⟩)⟩
                 have n6_ : Aside0 (Kd.R (Kd.int .i64) 3 (((w94.setCell ⟨gb434, 0, none⟩ (.bool true)).setCell ⟨gb434, 1, none⟩ (.slice Ao96 y425.length co96)).setCell ⟨gb434, 2, none⟩ (.slice Ao95 y431.length co95)) w.heap.size (fun k_ => so k_ Ao14 t400 co14 ∧ so k_ Ao15 t403 co15 ∧ so k_ Ao17 t407 co17 ∧ so k_ Ao18 t410 co18 ∧ so k_ Ao96 y425 co96) (.slice Ao95 y431.length co95) y431) := ⟨by exact Kd.R_mono (Kd.R_far (p := ⟨gb434, 2, none⟩) (Kd.R_far (p := ⟨gb434, 1, none⟩) (Kd.R_far (p := ⟨gb434, 0, none⟩) (Kd.R_types HO433.out BK434.out (by decide)) (fun _ hk => hk.2) (.bool true)) (fun _ hk => hk.2) (.slice Ao96 y425.length co96)) (fun _ hk => hk.2) (.slice Ao95 y431.length co95)) (fun _ hk => ⟨hk.1.2.1, ⟨hk.1.2.2.1, ⟨hk.1.2.2.2.1, ⟨hk.1.2.2.2.2, hk.1.1⟩⟩⟩⟩)⟩
                 have n7_ : Aside0 ((((w94.setCell ⟨gb434, 0, none⟩ (.bool true)).setCell ⟨gb434, 1, none⟩ (.slice Ao96 y425.length co96)).setCell ⟨gb434, 2, none⟩ (.slice Ao95 y431.length co95)).heap[gb413]? = some (.cells #[.bool t399, .slice Ao14 t400.length co14, .slice Ao15 t403.length co15] 26 (0, 0))) := kf
                 have n8_ : Aside0 ((((w94.setCell ⟨gb434, 0, none⟩ (.bool true)).setCell ⟨gb434, 1, none⟩ (.slice Ao96 y425.length co96)).setCell ⟨gb434, 2, none⟩ (.slice Ao95 y431.length co95)).heap[gb414]? = some (.cells #[.bool t406, .slice Ao17 t407.length co17, .slice Ao18 t410.length co18] 26 (0, 0))) := kf
                 have n9_ : Aside0 ((((w94.setCell ⟨gb434, 0, none⟩ (.bool true)).setCell ⟨gb434, 1, none⟩ (.slice Ao96 y425.length co96)).setCell ⟨gb434, 2, none⟩ (.slice Ao95 y431.length co95)).heap[gb434]? = some (.cells #[.bool true, .slice Ao96 y425.length co96, .slice Ao95 y431.length co95] 26 (0, 0))) := kf
                 have n10_ : Aside0 (Below w.heap.size w (((w94.setCell ⟨gb434, 0, none⟩ (.bool true)).setCell ⟨gb434, 1, none⟩ (.slice Ao96 y425.length co96)).setCell ⟨gb434, 2, none⟩ (.slice Ao95 y431.length co95))) := ⟨bl⟩
                 (try clear HO_5)
                 (try clear HO_414001)
                 (try clear HO_414002)
                 (try clear HO_415001)
                 (try clear HO_415002)
                 (try clear HO427)
                 (try clear HO433)
                 (try clear BK413)
                 (try clear BK414)
                 (try clear BK434)
                 (try clear HB)
                 generalize (((w94.setCell ⟨gb434, 0, none⟩ (.bool true)).setCell ⟨gb434, 1, none⟩ (.slice Ao96 y425.length co96)).setCell ⟨gb434, 2, none⟩ (.slice Ao95 y431.length co95)) = w103 at n0_ n1_ n2_ n3_ n4_ n5_ n6_ n7_ n8_ n9_ n10_ ⊢
                 have HO_5 := n0_
                 have HO_414001 := n1_
                 have HO_414002 := n2_
                 have HO_415001 := n3_
                 have HO_415002 := n4_
                 have HO427 := n5_
                 have HO433 := n6_
                 have BK413 := n7_
                 have BK414 := n8_
                 have BK434 := n9_
                 have HB := n10_
                 clear n0_ n1_ n2_ n3_ n4_ n5_ n6_ n7_ n8_ n9_ n10_
                 replace HO_5 := dN HO_5
                 replace HO_414001 := dR HO_414001
                 replace HO_414002 := dQ HO_414002
                 replace HO_415001 := dR HO_415001
                 replace HO_415002 := dQ HO_415002
                 replace HO427 := dR HO427
                 replace HO433 := dR HO433
                 replace BK413 := dK BK413
                 replace BK414 := dK BK414
                 replace BK434 := dK BK434
                 replace HB := Aside0.mk (below_drew1 HB.out)
                 have p80 : 0 ≤ ((ji77) : Int) := od
                 have q80 : ((ji77) : Int) < ((y425.length : Int) : Int) := od
                 obtain ⟨go80, co80, eo80, gb80, gl80, cl80, HG80⟩ := Kd.R_form HO427.out (by omega)
                 (first | cases eo80 | (injection eo80 with ea_ en_ ec_; (first | subst ea_ | (injection ea_ with ea_; subst ea_)); subst ec_; clear en_))
                 have GB80 := Aside0.mk gb80
                 have GG80 := Aside0.mk HG80
                 clear gb80 gl80 HG80
                 obtain ⟨hx80_0, hf80_0⟩ := Kd.R_celln 0 HO427.out ((ji77) : Int) p80 q80
                 replace p80 := eq_true p80
                 replace q80 := eq_true q80
                 have HP105 := Kd.R_putn HO427.out ((ji77) : Int) 0
                 rw [← Ny435.out] at HP105
                 have HQ105 := Aside0.mk HP105
                 clear HP105
                 refine start_ (n := 10) (S := fun w' => w'.cell? ⟨gb434, 0, none⟩ = some (.bool true) ∧ w'.cell? ⟨gb434, 1, none⟩ = some (.slice (some ⟨go80, 0, none⟩) y425.length co96) ∧ w'.cell? ⟨gb434, 2, none⟩ = some (.slice Ao95 y431.length co95)) (ds := [9]) #[false, false, false, false, false, false, false, false, false, false] (by kernel_rfl) rfl rfl ⟨(blk_cell BK434.out 0).trans rfl, (blk_cell BK434.out 1).trans rfl, (blk_cell BK434.out 2).trans rfl⟩ (fun hHeld => ?_); refine with_tabW laws_FnShapeOrder.tab11 laws_FnShapeOrder.bits11 (fun HT_ HW_ => ?_)
                 generalize w103.drew = w104 at HO_5 HO_414001 HO_414002 HO_415001 HO_415002 HO427 HO433 BK413 BK414 BK434 HB GG80 HQ105 hf80_0 hx80_0 hHeld ⊢
                 refine pu 0 81 #[true, false, false, false, false, false, false, false, false, false] HT_ rfl rfl ?_
                 refine pu 2 83 #[true, false, true, false, false, false, false, false, false, false] HT_ rfl rfl ?_
                 refine pu 3 84 #[true, false, true, true, false, false, false, false, false, false] HT_ rfl rfl ?_
                 refine pu 4 85 #[true, false, true, true, true, false, false, false, false, false] HT_ rfl rfl ?_
                 refine ta 1 82 #[true, true, true, true, true, false, false, false, false, false] HT_ HW_ hHeld rfl rfl ?_
                 refine ta 5 86 #[true, true, true, true, true, true, false, false, false, false] HT_ HW_ hHeld rfl rfl ?_
                 refine pu 6 87 #[true, true, true, true, true, true, true, false, false, false] HT_ rfl rfl ?_
                 refine pu 7 88 #[true, true, true, true, true, true, true, true, false, false] HT_ rfl rfl ?_
                 refine pu 8 89 #[true, true, true, true, true, true, true, true, true, false] HT_ rfl rfl ?_
                 refine last_ (i := 9) (N := none) #[true, true, true, true, true, true, true, true, true, true] rfl rfl (one_of HT_.out (by kernel_rfl)) (by decide) (fun K hK => ?_)
                 refine skip_ (w1 := ?_) (by rfl) rfl ?_ ?_
                 rotate_left
                 ·go_simp
                  rfl
                 refine hK.out _ _ ?_
                 clear hK K
                 refine done_ (done_of HT_.out (by kernel_rfl)) ?_
                 have hnb106 := NB414_413.out
                 have hnc106 := NB413_414.out
                 obtain ⟨_,_,_,_,_,_⟩ := cf3 BK414
                 obtain ⟨_,_,_,_,_,_⟩ := cf3 BK434
                 have hd_go80_413 : gb413 ≠ go80 := by have h_ := Kd.R_ne HO427.out BK413.out (by decide); intro e_; exact h_ (by rw [e_]; rfl)
                 have he_go80_413 := Ne.symm hd_go80_413
                 have hd_go80_414 : gb414 ≠ go80 := by have h_ := Kd.R_ne HO427.out BK414.out (by decide); intro e_; exact h_ (by rw [e_]; rfl)
                 have he_go80_414 := Ne.symm hd_go80_414
                 have hd_go80_434 : gb434 ≠ go80 := by have h_ := Kd.R_ne HO427.out BK434.out (by decide); intro e_; exact h_ (by rw [e_]; rfl)
                 have he_go80_434 := Ne.symm hd_go80_434
                 try go_wp2_with (first | ((with_reducible refine gc 5 rfl ?_); refine goesL_ (some 93) rfl rfl Try.func5 (by kernel_rfl) rfl #[.slice Ao19 t396.length co19, .agg #[.bool t406, .slice Ao17 t407.length co17, .slice Ao18 t410.length co18], .agg #[.bool true, .slice (some ⟨go80, 0, none⟩) y435.length co96, .slice Ao95 y431.length co95]] rfl (by (try simp only [List.map_toArray, List.map_cons, List.map_nil]); first | done | (rw [show y435.length = y425.length from (Kd.R_reads' HQ105.out).1.symm] <;> rfl) | rfl | (simp only [List.length_drop, List.length_take]; rfl)) ?_; (with_reducible refine (impl_ShapeIn.calls kj36 _ _ t396 t406 _ _ t407 _ _ t410 true _ _ y435 _ _ y431 true _ ?side1 ?side2 ?side3 ?side4 ?side5 ?side6 ?side7 ?side8 ?side9 ?side10 A81.out).mono ?_); (case side1 => refine (Kd.N_reads' (e := 48) (base := w.heap.size) (ok := fun k_ => (so k_ Ao14 t400 co14 ∧ (so k_ Ao15 t403 co15 ∧ (so k_ Ao17 t407 co17 ∧ (so k_ Ao18 t410 co18 ∧ (some k_ ≠ (.slice (some ⟨go80, 0, none⟩) y425.length co96 : Value).ownBlock ∧ (so k_ Ao95 y431 co95 ∧ (k_ ≠ gb413 ∧ (k_ ≠ gb414 ∧ k_ ≠ gb434))))))))) (n := t396.length) (c := co19) ?_).2.2; exact ((Kd.N_mono (Kd.N_far (p := ⟨go80, ((ji77) : Int).toNat, none⟩) (Kd.N_mono HO_5.out (fun k_ hk => (⟨hk, fun e_ => hk.2.2.2.2.1 (by rw [e_]; rfl)⟩ : _ ∧ k_ ≠ go80))) (fun _ hk => hk.2) (.int .i64 0)) (fun _ h_ => h_.1)))); (case side2 => exact (Kd.N_reads' HO_5.out).2.1); (case side3 => refine (Kd.R_reads' (e := 3) (base := w.heap.size) (ok := fun k_ => (so k_ Ao14 t400 co14 ∧ (so k_ Ao15 t403 co15 ∧ (so k_ Ao18 t410 co18 ∧ (some k_ ≠ (.slice (some ⟨go80, 0, none⟩) y425.length co96 : Value).ownBlock ∧ so k_ Ao95 y431 co95))))) (n := t407.length) (c := co17) ?_).2.2; exact ((Kd.R_mono (Kd.R_far (p := ⟨go80, ((ji77) : Int).toNat, none⟩) (Kd.R_mono HO_415001.out (fun k_ hk => (⟨hk, fun e_ => hk.2.2.2.1 (by rw [e_]; rfl)⟩ : _ ∧ k_ ≠ go80))) (fun _ hk => hk.2) (.int .i64 0)) (fun _ h_ => h_.1)))); (case side4 => exact (Kd.R_reads' HO_415001.out).2.1); (case side5 => refine (Kd.Q_reads' (e := 3) (base := w.heap.size) (ok := fun k_ => (so k_ Ao14 t400 co14 ∧ (so k_ Ao15 t403 co15 ∧ (so k_ Ao17 t407 co17 ∧ (some k_ ≠ (.slice (some ⟨go80, 0, none⟩) y425.length co96 : Value).ownBlock ∧ so k_ Ao95 y431 co95))))) (n := t410.length) (c := co18) ?_).2.2; exact ((Kd.Q_mono (Kd.Q_far (p := ⟨go80, ((ji77) : Int).toNat, none⟩) (Kd.Q_mono HO_415002.out (fun k_ hk => (⟨hk, fun e_ => hk.2.2.2.1 (by rw [e_]; rfl)⟩ : _ ∧ k_ ≠ go80))) (fun _ hk => hk.2) (.int .i64 0)) (fun _ h_ => h_.1)))); (case side6 => exact (Kd.Q_reads' HO_415002.out).2.1); (case side7 => refine (Kd.R_reads' (e := 3) (base := w.heap.size) (ok := fun k_ => (so k_ Ao14 t400 co14 ∧ (so k_ Ao15 t403 co15 ∧ (so k_ Ao17 t407 co17 ∧ (so k_ Ao18 t410 co18 ∧ so k_ Ao95 y431 co95))))) (n := y425.length) (c := co96) ?_).2.2; exact HQ105.out); (case side8 => rw [show y435.length = y425.length from (Kd.R_reads' HQ105.out).1.symm]; exact (Kd.R_reads' HO427.out).2.1); (case side9 => refine (Kd.R_reads' (e := 3) (base := w.heap.size) (ok := fun k_ => (so k_ Ao14 t400 co14 ∧ (so k_ Ao15 t403 co15 ∧ (so k_ Ao17 t407 co17 ∧ (so k_ Ao18 t410 co18 ∧ some k_ ≠ (.slice (some ⟨go80, 0, none⟩) y425.length co96 : Value).ownBlock))))) (n := y431.length) (c := co95) ?_).2.2; exact ((Kd.R_mono (Kd.R_far (p := ⟨go80, ((ji77) : Int).toNat, none⟩) (Kd.R_mono HO433.out (fun k_ hk => (⟨hk, fun e_ => hk.2.2.2.2 (by rw [e_]; rfl)⟩ : _ ∧ k_ ≠ go80))) (fun _ hk => hk.2) (.int .i64 0)) (fun _ h_ => h_.1)))); (case side10 => exact (Kd.R_reads' HO433.out).2.1); rintro e w109 ⟨rfl, hb⟩; refine ⟨_, rfl, ?_⟩; replace HO_5 := Aside0.mk (Kd.N_below ((Kd.N_mono (Kd.N_far (p := ⟨go80, ((ji77) : Int).toNat, none⟩) (Kd.N_mono HO_5.out (fun k_ hk => (⟨hk, fun e_ => hk.2.2.2.2.1 (by rw [e_]; rfl)⟩ : _ ∧ k_ ≠ go80))) (fun _ hk => hk.2) (.int .i64 0)) (fun _ h_ => h_.1))) hb); replace HO_414001 := Aside0.mk (Kd.R_below ((Kd.R_mono (Kd.R_far (p := ⟨go80, ((ji77) : Int).toNat, none⟩) (Kd.R_mono HO_414001.out (fun k_ hk => (⟨hk, fun e_ => hk.2.2.2.1 (by rw [e_]; rfl)⟩ : _ ∧ k_ ≠ go80))) (fun _ hk => hk.2) (.int .i64 0)) (fun _ h_ => h_.1))) hb); replace HO_414002 := Aside0.mk (Kd.Q_below ((Kd.Q_mono (Kd.Q_far (p := ⟨go80, ((ji77) : Int).toNat, none⟩) (Kd.Q_mono HO_414002.out (fun k_ hk => (⟨hk, fun e_ => hk.2.2.2.1 (by rw [e_]; rfl)⟩ : _ ∧ k_ ≠ go80))) (fun _ hk => hk.2) (.int .i64 0)) (fun _ h_ => h_.1))) hb); replace HO_415001 := Aside0.mk (Kd.R_below ((Kd.R_mono (Kd.R_far (p := ⟨go80, ((ji77) : Int).toNat, none⟩) (Kd.R_mono HO_415001.out (fun k_ hk => (⟨hk, fun e_ => hk.2.2.2.1 (by rw [e_]; rfl)⟩ : _ ∧ k_ ≠ go80))) (fun _ hk => hk.2) (.int .i64 0)) (fun _ h_ => h_.1))) hb); replace HO_415002 := Aside0.mk (Kd.Q_below ((Kd.Q_mono (Kd.Q_far (p := ⟨go80, ((ji77) : Int).toNat, none⟩) (Kd.Q_mono HO_415002.out (fun k_ hk => (⟨hk, fun e_ => hk.2.2.2.1 (by rw [e_]; rfl)⟩ : _ ∧ k_ ≠ go80))) (fun _ hk => hk.2) (.int .i64 0)) (fun _ h_ => h_.1))) hb); replace HO427 := Aside0.mk (Kd.R_below HQ105.out hb); replace HO433 := Aside0.mk (Kd.R_below ((Kd.R_mono (Kd.R_far (p := ⟨go80, ((ji77) : Int).toNat, none⟩) (Kd.R_mono HO433.out (fun k_ hk => (⟨hk, fun e_ => hk.2.2.2.2 (by rw [e_]; rfl)⟩ : _ ∧ k_ ≠ go80))) (fun _ hk => hk.2) (.int .i64 0)) (fun _ h_ => h_.1))) hb); replace BK413 := Aside0.mk (blk_below (g := gb413) (o := .cells #[.bool t399, .slice Ao14 t400.length co14, .slice Ao15 t403.length co15] 26 (0, 0)) (by (with_reducible repeat (first | refine blk_drewN ?_ _ | refine blk_drew ?_ | refine blk_alloc ?_ _)); refine blk_far ?_ hd_go80_413 _; (with_reducible repeat (first | refine blk_drewN ?_ _ | refine blk_drew ?_ | refine blk_alloc ?_ _)); exact BK413.out) hb); replace BK414 := Aside0.mk (blk_below (g := gb414) (o := .cells #[.bool t406, .slice Ao17 t407.length co17, .slice Ao18 t410.length co18] 26 (0, 0)) (by (with_reducible repeat (first | refine blk_drewN ?_ _ | refine blk_drew ?_ | refine blk_alloc ?_ _)); refine blk_far ?_ hd_go80_414 _; (with_reducible repeat (first | refine blk_drewN ?_ _ | refine blk_drew ?_ | refine blk_alloc ?_ _)); exact BK414.out) hb); replace BK434 := Aside0.mk (blk_below (g := gb434) (o := .cells #[.bool true, .slice (some ⟨go80, 0, none⟩) y425.length co96, .slice Ao95 y431.length co95] 26 (0, 0)) (by (with_reducible repeat (first | refine blk_drewN ?_ _ | refine blk_drew ?_ | refine blk_alloc ?_ _)); refine blk_far ?_ hd_go80_434 _; (with_reducible repeat (first | refine blk_drewN ?_ _ | refine blk_drew ?_ | refine blk_alloc ?_ _)); exact BK434.out) hb); replace HB := hs HB hb; obtain ⟨_,_,_,_,_,_⟩ := cf3 BK413; obtain ⟨_,_,_,_,_,_⟩ := cf3 BK434) | (go_at_call 5; refine calls_of_args (args' := #[.slice Ao19 t396.length co19, .agg #[.bool t399, .slice Ao14 t400.length co14, .slice Ao15 t403.length co15], .agg #[.bool true, .slice (some ⟨go80, 0, none⟩) y435.length co96, .slice Ao95 y431.length co95]]) (by first | (rw [show y435.length = y425.length from (Kd.R_reads' HO427.out).1.symm] <;> rfl) | rfl) ?_; (with_reducible refine (impl_ShapeIn.calls kj36 _ _ t396 t399 _ _ t400 _ _ t403 true _ _ y435 _ _ y431 t437 _ ?side1 ?side2 ?side3 ?side4 ?side5 ?side6 ?side7 ?side8 ?side9 ?side10 A83.out).mono ?_); (case side1 => exact (Kd.N_reads' HO_5.out).2.2); (case side2 => exact (Kd.N_reads' HO_5.out).2.1); (case side3 => exact (Kd.R_reads' HO_414001.out).2.2); (case side4 => exact (Kd.R_reads' HO_414001.out).2.1); (case side5 => exact (Kd.Q_reads' HO_414002.out).2.2); (case side6 => exact (Kd.Q_reads' HO_414002.out).2.1); (case side7 => exact (Kd.R_reads' HO427.out).2.2); (case side8 => rw [show y435.length = y425.length from (Kd.R_reads' HO427.out).1.symm]; exact (Kd.R_reads' HO427.out).2.1); (case side9 => exact (Kd.R_reads' HO433.out).2.2); (case side10 => exact (Kd.R_reads' HO433.out).2.1); rintro e w112 ⟨rfl, hb⟩; replace HO_5 := nb HO_5 hb; replace HO_414001 := rb HO_414001 hb; replace HO_414002 := qb HO_414002 hb; replace HO_415001 := rb HO_415001 hb; replace HO_415002 := qb HO_415002 hb; replace HO427 := rb HO427 hb; replace HO433 := rb HO433 hb; replace BK413 := kb BK413 hb; replace BK414 := kb BK414 hb; replace BK434 := kb BK434 hb; replace HB := hs HB hb))
                 go_ret
                 exact ⟨by first | rfl | (simp [errW_none, errW_some] <;> rfl) | (simp only [← hji77]; first | rfl | (simp [errW_none, errW_some] <;> rfl)) | (simp [*, errW_none, errW_some] <;> rfl), bl⟩
                ·replace c82 := Bool.eq_false_iff.mpr c82
                 subst c82
                 replace H := ie H
                 obtain rfl := Option.some.inj H
                 exact absurd hr_ (by decide)
               ·rw [if_neg c79] at H
                exact absurd H (by simp)
              ·rw [if_neg c78] at H
               exact absurd H (by simp)
            ·rw [if_neg c75] at H
             have c75b0 : decide (0 < (y425.length : Int)) = false := decide_eq_false c75
             have c75b1 : decide (0 < y425.length) = false := decide_eq_false (by omega)
             clear c75
             obtain ⟨t438, A113, H⟩ := ob H
             by_cases c114 : t438 = true
             ·subst c114
              replace H := it H
              obtain ⟨t439, A115, H⟩ := ob H
              obtain rfl := Option.some.inj H; clear H
              have hnb132 := NB434_413.out
              have hnc132 := NB413_434.out
              have hnb133 := NB434_414.out
              have hnc133 := NB414_434.out
              obtain ⟨_,_,_,_,_,_⟩ := cf3 BK434
              have hnb135 := NB414_413.out
              have hnc135 := NB413_414.out
              obtain ⟨_,_,_,_,_,_⟩ := cf3 BK414
              try go_wp2_with (first | ((with_reducible refine gc 5 rfl ?_); refine gl (some 93) Try.func5 #[.slice Ao19 t396.length co19, .agg #[.bool t406, .slice Ao17 t407.length co17, .slice Ao18 t410.length co18], .agg #[.bool true, .slice Ao96 y425.length co96, .slice Ao95 y431.length co95]] rfl ?_; (with_reducible refine (impl_ShapeIn.calls kj36 _ _ t396 t406 _ _ t407 _ _ t410 true _ _ y425 _ _ y431 true _ ?side1 ?side2 ?side3 ?side4 ?side5 ?side6 ?side7 ?side8 ?side9 ?side10 A113.out).mono ?_); (case side1 => refine (Kd.N_reads' (e := 48) (base := w.heap.size) (ok := fun k_ => (so k_ Ao96 y425 co96 ∧ (so k_ Ao95 y431 co95 ∧ (so k_ Ao14 t400 co14 ∧ (so k_ Ao15 t403 co15 ∧ (so k_ Ao17 t407 co17 ∧ (so k_ Ao18 t410 co18 ∧ (k_ ≠ gb413 ∧ (k_ ≠ gb414 ∧ k_ ≠ gb434))))))))) (n := t396.length) (c := co19) ?_).2.2; exact ((Kd.N_mono (Kd.N_far (p := ⟨gb434, 2, none⟩) (Kd.N_far (p := ⟨gb434, 1, none⟩) (Kd.N_far (p := ⟨gb434, 0, none⟩) (Kd.N_mono HO_5.out (fun k_ hk => (⟨hk, hk.2.2.2.2.2.2.2.2⟩ : _ ∧ k_ ≠ gb434))) (fun _ hk => hk.2) (.bool true)) (fun _ hk => hk.2) (.slice Ao96 y425.length co96)) (fun _ hk => hk.2) (.slice Ao95 y431.length co95)) (fun _ h_ => h_.1)))); (case side2 => exact (Kd.N_reads' HO_5.out).2.1); (case side3 => refine (Kd.R_reads' (e := 3) (base := w.heap.size) (ok := fun k_ => (so k_ Ao96 y425 co96 ∧ (so k_ Ao95 y431 co95 ∧ (so k_ Ao14 t400 co14 ∧ (so k_ Ao15 t403 co15 ∧ so k_ Ao18 t410 co18))))) (n := t407.length) (c := co17) ?_).2.2; exact ((Kd.R_mono (Kd.R_far (p := ⟨gb434, 2, none⟩) (Kd.R_far (p := ⟨gb434, 1, none⟩) (Kd.R_far (p := ⟨gb434, 0, none⟩) (Kd.R_types HO_415001.out BK434.out (by decide)) (fun _ hk => hk.2) (.bool true)) (fun _ hk => hk.2) (.slice Ao96 y425.length co96)) (fun _ hk => hk.2) (.slice Ao95 y431.length co95)) (fun _ h_ => h_.1)))); (case side4 => exact (Kd.R_reads' HO_415001.out).2.1); (case side5 => refine (Kd.Q_reads' (e := 3) (base := w.heap.size) (ok := fun k_ => (so k_ Ao96 y425 co96 ∧ (so k_ Ao95 y431 co95 ∧ (so k_ Ao14 t400 co14 ∧ (so k_ Ao15 t403 co15 ∧ so k_ Ao17 t407 co17))))) (n := t410.length) (c := co18) ?_).2.2; exact ((Kd.Q_mono (Kd.Q_far (p := ⟨gb434, 2, none⟩) (Kd.Q_far (p := ⟨gb434, 1, none⟩) (Kd.Q_far (p := ⟨gb434, 0, none⟩) (Kd.Q_types HO_415002.out BK434.out (by decide)) (fun _ hk => hk.2) (.bool true)) (fun _ hk => hk.2) (.slice Ao96 y425.length co96)) (fun _ hk => hk.2) (.slice Ao95 y431.length co95)) (fun _ h_ => h_.1)))); (case side6 => exact (Kd.Q_reads' HO_415002.out).2.1); (case side7 => refine (Kd.R_reads' (e := 3) (base := w.heap.size) (ok := fun k_ => (so k_ Ao95 y431 co95 ∧ (so k_ Ao14 t400 co14 ∧ (so k_ Ao15 t403 co15 ∧ (so k_ Ao17 t407 co17 ∧ so k_ Ao18 t410 co18))))) (n := y425.length) (c := co96) ?_).2.2; exact ((Kd.R_mono (Kd.R_far (p := ⟨gb434, 2, none⟩) (Kd.R_far (p := ⟨gb434, 1, none⟩) (Kd.R_far (p := ⟨gb434, 0, none⟩) (Kd.R_types HO427.out BK434.out (by decide)) (fun _ hk => hk.2) (.bool true)) (fun _ hk => hk.2) (.slice Ao96 y425.length co96)) (fun _ hk => hk.2) (.slice Ao95 y431.length co95)) (fun _ h_ => h_.1)))); (case side8 => exact (Kd.R_reads' HO427.out).2.1); (case side9 => refine (Kd.R_reads' (e := 3) (base := w.heap.size) (ok := fun k_ => (so k_ Ao96 y425 co96 ∧ (so k_ Ao14 t400 co14 ∧ (so k_ Ao15 t403 co15 ∧ (so k_ Ao17 t407 co17 ∧ so k_ Ao18 t410 co18))))) (n := y431.length) (c := co95) ?_).2.2; exact ((Kd.R_mono (Kd.R_far (p := ⟨gb434, 2, none⟩) (Kd.R_far (p := ⟨gb434, 1, none⟩) (Kd.R_far (p := ⟨gb434, 0, none⟩) (Kd.R_types HO433.out BK434.out (by decide)) (fun _ hk => hk.2) (.bool true)) (fun _ hk => hk.2) (.slice Ao96 y425.length co96)) (fun _ hk => hk.2) (.slice Ao95 y431.length co95)) (fun _ h_ => h_.1)))); (case side10 => exact (Kd.R_reads' HO433.out).2.1); rintro e w137 ⟨rfl, hb⟩; refine ⟨_, rfl, ?_⟩; replace HO_5 := Aside0.mk (Kd.N_below ((Kd.N_mono (Kd.N_far (p := ⟨gb434, 2, none⟩) (Kd.N_far (p := ⟨gb434, 1, none⟩) (Kd.N_far (p := ⟨gb434, 0, none⟩) (Kd.N_mono HO_5.out (fun k_ hk => (⟨hk, hk.2.2.2.2.2.2.2.2⟩ : _ ∧ k_ ≠ gb434))) (fun _ hk => hk.2) (.bool true)) (fun _ hk => hk.2) (.slice Ao96 y425.length co96)) (fun _ hk => hk.2) (.slice Ao95 y431.length co95)) (fun _ h_ => h_.1))) hb); replace HO_414001 := Aside0.mk (Kd.R_below ((Kd.R_mono (Kd.R_far (p := ⟨gb434, 2, none⟩) (Kd.R_far (p := ⟨gb434, 1, none⟩) (Kd.R_far (p := ⟨gb434, 0, none⟩) (Kd.R_types HO_414001.out BK434.out (by decide)) (fun _ hk => hk.2) (.bool true)) (fun _ hk => hk.2) (.slice Ao96 y425.length co96)) (fun _ hk => hk.2) (.slice Ao95 y431.length co95)) (fun _ h_ => h_.1))) hb); replace HO_414002 := Aside0.mk (Kd.Q_below ((Kd.Q_mono (Kd.Q_far (p := ⟨gb434, 2, none⟩) (Kd.Q_far (p := ⟨gb434, 1, none⟩) (Kd.Q_far (p := ⟨gb434, 0, none⟩) (Kd.Q_types HO_414002.out BK434.out (by decide)) (fun _ hk => hk.2) (.bool true)) (fun _ hk => hk.2) (.slice Ao96 y425.length co96)) (fun _ hk => hk.2) (.slice Ao95 y431.length co95)) (fun _ h_ => h_.1))) hb); replace HO_415001 := Aside0.mk (Kd.R_below ((Kd.R_mono (Kd.R_far (p := ⟨gb434, 2, none⟩) (Kd.R_far (p := ⟨gb434, 1, none⟩) (Kd.R_far (p := ⟨gb434, 0, none⟩) (Kd.R_types HO_415001.out BK434.out (by decide)) (fun _ hk => hk.2) (.bool true)) (fun _ hk => hk.2) (.slice Ao96 y425.length co96)) (fun _ hk => hk.2) (.slice Ao95 y431.length co95)) (fun _ h_ => h_.1))) hb); replace HO_415002 := Aside0.mk (Kd.Q_below ((Kd.Q_mono (Kd.Q_far (p := ⟨gb434, 2, none⟩) (Kd.Q_far (p := ⟨gb434, 1, none⟩) (Kd.Q_far (p := ⟨gb434, 0, none⟩) (Kd.Q_types HO_415002.out BK434.out (by decide)) (fun _ hk => hk.2) (.bool true)) (fun _ hk => hk.2) (.slice Ao96 y425.length co96)) (fun _ hk => hk.2) (.slice Ao95 y431.length co95)) (fun _ h_ => h_.1))) hb); replace HO427 := Aside0.mk (Kd.R_below ((Kd.R_mono (Kd.R_far (p := ⟨gb434, 2, none⟩) (Kd.R_far (p := ⟨gb434, 1, none⟩) (Kd.R_far (p := ⟨gb434, 0, none⟩) (Kd.R_types HO427.out BK434.out (by decide)) (fun _ hk => hk.2) (.bool true)) (fun _ hk => hk.2) (.slice Ao96 y425.length co96)) (fun _ hk => hk.2) (.slice Ao95 y431.length co95)) (fun _ h_ => h_.1))) hb); replace HO433 := Aside0.mk (Kd.R_below ((Kd.R_mono (Kd.R_far (p := ⟨gb434, 2, none⟩) (Kd.R_far (p := ⟨gb434, 1, none⟩) (Kd.R_far (p := ⟨gb434, 0, none⟩) (Kd.R_types HO433.out BK434.out (by decide)) (fun _ hk => hk.2) (.bool true)) (fun _ hk => hk.2) (.slice Ao96 y425.length co96)) (fun _ hk => hk.2) (.slice Ao95 y431.length co95)) (fun _ h_ => h_.1))) hb); replace BK413 := kq BK413 hb; replace BK414 := kq BK414 hb; replace BK434 := kp2 gb434 #[.bool true, .slice Ao96 y425.length co96, .slice Ao95 y431.length co95] 26 hb; replace HB := hs HB hb; obtain ⟨_,_,_,_,_,_⟩ := cf3 BK413; obtain ⟨_,_,_,_,_,_⟩ := cf3 BK434) | (go_at_call 5; (with_reducible refine (impl_ShapeIn.calls kj36 _ _ t396 t399 _ _ t400 _ _ t403 true _ _ y425 _ _ y431 t439 _ ?side1 ?side2 ?side3 ?side4 ?side5 ?side6 ?side7 ?side8 ?side9 ?side10 A115.out).mono ?_); (case side1 => exact (Kd.N_reads' HO_5.out).2.2); (case side2 => exact (Kd.N_reads' HO_5.out).2.1); (case side3 => exact (Kd.R_reads' HO_414001.out).2.2); (case side4 => exact (Kd.R_reads' HO_414001.out).2.1); (case side5 => exact (Kd.Q_reads' HO_414002.out).2.2); (case side6 => exact (Kd.Q_reads' HO_414002.out).2.1); (case side7 => exact (Kd.R_reads' HO427.out).2.2); (case side8 => exact (Kd.R_reads' HO427.out).2.1); (case side9 => exact (Kd.R_reads' HO433.out).2.2); (case side10 => exact (Kd.R_reads' HO433.out).2.1); rintro e w140 ⟨rfl, hb⟩; replace HO_5 := nb HO_5 hb; replace HO_414001 := rb HO_414001 hb; replace HO_414002 := qb HO_414002 hb; replace HO_415001 := rb HO_415001 hb; replace HO_415002 := qb HO_415002 hb; replace HO427 := rb HO427 hb; replace HO433 := rb HO433 hb; replace BK413 := kb BK413 hb; replace BK414 := kb BK414 hb; replace BK434 := kb BK434 hb; replace HB := hs HB hb))
              go_ret
              exact fin
             ·replace c114 := Bool.eq_false_iff.mpr c114
              subst c114
              replace H := ie H
              obtain rfl := Option.some.inj H
              exact absurd hr_ (by decide)
           ·rw [if_neg c74] at H
            exact absurd H (by simp)
          ·rw [if_neg c73] at H
           exact absurd H (by simp)
theorem laws_FnShapeOrder.walk (P : laws_FnShapeOrder.Pure) (a0 : Option Addr) (len0 cap0 : Nat) (z0 : List Int) (a1 : Option Addr) (len1 cap1 : Nat) (z1 : List Int) (w : World) (w0 : (a0 = none ∧ len0 = 0 ∧ cap0 = 0 ∧ z0 = []) ∨ ∃ x, a0 = some x ∧ len0 ≤ cap0 ∧ cap0 ≤ maxLen ∧ z0.length = cap0 ∧ (∀ i, i < z0.length → w.cell? (x.add i) = some (.int .u8 (z0.getD i 0))) ∧ ∀ n ∈ z0, (Lit.int .u8 n).wf = true) (y0 : len0 * 1 ≤ 140737488351232) (w1 : (a1 = none ∧ len1 = 0 ∧ cap1 = 0 ∧ z1 = []) ∨ ∃ x, a1 = some x ∧ len1 ≤ cap1 ∧ cap1 ≤ maxLen ∧ z1.length = cap1 ∧ (∀ i, i < z1.length → w.cell? (x.add i) = some (.int .u8 (z1.getD i 0))) ∧ ∀ n ∈ z1, (Lit.int .u8 n).wf = true) (y1 : len1 * 1 ≤ 140737488351232) :
  Calls Try.prog 3 #[.slice a0 len0 cap0, .slice a1 len1 cap1] w fun e w' => e = .returned (.bool true) ∧ Below w.heap.size w w' := by
 obtain ⟨l0, rfl, hr0, hm0, hw0, hc0⟩ := ReadsInt.ofRowC w0
 obtain ⟨l1, rfl, hr1, hm1, hw1, hc1⟩ := ReadsInt.ofRowC w1
 obtain ⟨k, h⟩ := P l0 l1 hm0 y0 hw0 hm1 y1 hw1
 refine (laws_FnShapeOrder.calls k _ _ l0 _ _ l1 true w (Kd.C_of_reads (d := (0 : Int)) (h1 := fun _ => rfl) hr0) hc0 (Kd.C_of_reads (d := (0 : Int)) (h1 := fun _ => rfl) hr1) hc1 h rfl).mono ?_
 rintro e w' ⟨rfl, hd⟩
 exact ⟨rfl, hd⟩
end Go.Proofs.Ytchegijjjakmpaa.P

end
