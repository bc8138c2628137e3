/- A part of the claim FnGraphTwice: texts of this session and texts that its program printed out of the translation, joined. -/
import Derived.Test.YteeakklnlcjgbaaCFnGraphTwice22
import Derived.Test.YteeakklnlcjgbaaCFnGraphTwice23
import Derived.Test.YteeakklnlcjgbaaCFnGraphTwice24
import Derived.Test.YteeakklnlcjgbaaCFnGraphTwice26
import Derived.Test.YteeakklnlcjgbaaCFnGraphTwice27
import Derived.Test.YteeakklnlcjgbaaCFnGraphTwice20
import Derived.Test.YteeakklnlcjgbaaCFnGraphTwice0
import Derived.Test.YteeakklnlcjgbaaCFnGraphTwice1
import Derived.Test.YteeakklnlcjgbaaCFnGraphTwice2
import Derived.Test.YteeakklnlcjgbaaCFnGraphTwice3
import Derived.Test.YteeakklnlcjgbaaCFnGraphTwice4
import Derived.Test.YteeakklnlcjgbaaCFnGraphTwice5
import Derived.Test.YteeakklnlcjgbaaCFnGraphTwice6
import Derived.Test.YteeakklnlcjgbaaCFnGraphTwice7
import Derived.Test.YteeakklnlcjgbaaCFnGraphTwice8
import Derived.Test.YteeakklnlcjgbaaCFnGraphTwice9
import Derived.Test.YteeakklnlcjgbaaCFnGraphTwice10
import Derived.Test.YteeakklnlcjgbaaCFnGraphTwice11
import Derived.Test.YteeakklnlcjgbaaCFnGraphTwice12
import Derived.Test.YteeakklnlcjgbaaCFnGraphTwice13
import Derived.Test.YteeakklnlcjgbaaCFnGraphTwice14
import Derived.Test.YteeakklnlcjgbaaCFnGraphTwice15
import Derived.Test.YteeakklnlcjgbaaCFnGraphTwice16
import Derived.Test.YteeakklnlcjgbaaCFnGraphTwice17
import Derived.Test.YteeakklnlcjgbaaCFnGraphTwice18
import Derived.Test.YteeakklnlcjgbaaCFnGraphTwice19
import Derived.Test.YteeakklnlcjgbaaCFnGraphTwice21
import Derived.Test.YteeakklnlcjgbaaCFnGraphTwice25
section

namespace Go.Proofs.Yteeakklnlcjgbaa.P
open Go.RowKit Go.Proofs.YteeakklnlcjgbaaW.PrintWords Go.Proofs.YteeakklnlcjgbaaW.PrintLast Go.Proofs.YteeakklnlcjgbaaW.PrintMore
attribute [local go_sem] max2_int min2_int max_two min_two max_three min_three max_four min_four
set_option linter.unusedVariables false
set_option linter.unusedSimpArgs false
set_option maxHeartbeats 8000000 in
set_option maxRecDepth 100000 in
theorem laws_FnGraphTwice.calls (k : Nat) (A0 : Option Addr) (c0 : Nat) (l0 : List Int) (r : Bool) (w : World) (hr0 : Kd.C (Kd.int .u8) w A0 l0.length l0) (hc0 : l0.length ≤ c0) (h : laws_FnGraphTwice.f k l0 = some r) (hr_ : r = true) :
    Calls Try.prog 10 #[.slice A0 l0.length c0] w fun e w' => e = .returned (.bool r) ∧ Below w.heap.size w w' := by
  have HR0 := Aside0.mk hr0
  have HC0 := Aside0.mk hc0
  clear hr0 hc0
  have HB := Aside0.mk (Below.refl w.heap.size w)
  have H : (if (l0.length : Int) > 1048576 then (some true) else ((spec_DrawHeapGraph.f k l0).bind fun bt454 => ((impl_HeapGraph.f k bt454.1 bt454.2).bind fun bt460 => ((spec_HeapGraph.f k bt454.1 bt454.2).bind fun bt466 => ((laws_leObjs.f k bt460.1 bt466.1).bind fun t472 => (if t472 = true then ((laws_leVals.f k bt460.2 bt466.2).bind fun t473 => (laws_FnGraphTwice.j0 k bt454.1 bt460.1 bt460.2 (!t473))) else (laws_FnGraphTwice.j0 k bt454.1 bt460.1 bt460.2 true))))))) = some r := h
  clear h
  by_cases c2 : (l0.length : Int) > 1048576
  · rw [if_pos c2] at H
    have c2b0 : decide (1048576 < (l0.length : Int)) = true := decide_eq_true c2
    have c2b1 : decide (1048576 < l0.length) = true := decide_eq_true (by omega)
    clear c2
    obtain rfl := Option.some.inj H
    simp only [Option.some.injEq, Prod.mk.injEq] at H
    obtain ⟨rfl⟩ := H
    go_enter Try.func10, Try.ntmps10
    go_wp2
    go_ret
    exact ⟨by first | rfl | (simp [errW_none, errW_some] <;> rfl) | (simp [*, errW_none, errW_some] <;> rfl), by repeat (first | (with_reducible first | exact HB.out | apply below_alloc | apply pw_below_drewN | apply below_drew1) | exact HB.out)⟩
  · rw [if_neg c2] at H
    have c2b0 : decide (1048576 < (l0.length : Int)) = false := decide_eq_false c2
    have c2b1 : decide (1048576 < l0.length) = false := decide_eq_false (by omega)
    clear c2
    replace H := Option.bind_eq_some_iff.mp H
    obtain ⟨⟨t454, t455⟩, A30, H⟩ := H
    replace H : ((impl_HeapGraph.f k t454 t455).bind fun bt460 => ((spec_HeapGraph.f k t454 t455).bind fun bt466 => ((laws_leObjs.f k bt460.1 bt466.1).bind fun t472 => (if t472 = true then ((laws_leVals.f k bt460.2 bt466.2).bind fun t473 => (laws_FnGraphTwice.j0 k t454 bt460.1 bt460.2 (!t473))) else (laws_FnGraphTwice.j0 k t454 bt460.1 bt460.2 true))))) = some r := H
    have A3 := Aside0.mk A30
    clear A30
    replace H := Option.bind_eq_some_iff.mp H
    obtain ⟨⟨t460, t461⟩, A40, H⟩ := H
    replace H : ((spec_HeapGraph.f k t454 t455).bind fun bt466 => ((laws_leObjs.f k t460 bt466.1).bind fun t472 => (if t472 = true then ((laws_leVals.f k t461 bt466.2).bind fun t473 => (laws_FnGraphTwice.j0 k t454 t460 t461 (!t473))) else (laws_FnGraphTwice.j0 k t454 t460 t461 true)))) = some r := H
    have A4 := Aside0.mk A40
    clear A40
    replace H := Option.bind_eq_some_iff.mp H
    obtain ⟨⟨t466, t467⟩, A50, H⟩ := H
    replace H : ((laws_leObjs.f k t460 t466).bind fun t472 => (if t472 = true then ((laws_leVals.f k t461 t467).bind fun t473 => (laws_FnGraphTwice.j0 k t454 t460 t461 (!t473))) else (laws_FnGraphTwice.j0 k t454 t460 t461 true))) = some r := H
    have A5 := Aside0.mk A50
    clear A50
    have HC6 := Aside0.mk H
    clear H
    go_enter Try.func10, Try.ntmps10
    go_upto_region 6 with (first | ((with_reducible refine gate_callee (f := 29) rfl ?_); refine goesL_ (some 16) rfl rfl Try.func29 (by kernel_rfl) rfl #[.slice A0 l0.length c0] rfl (by (try simp only [List.map_toArray, List.map_cons, List.map_nil]); first | done | rfl | (simp only [List.length_drop, List.length_take]; rfl)) ?_; (with_reducible refine (spec_DrawHeapGraph.calls k _ _ l0 t454 t455 _ ?side1 ?side2 A3.out).mono ?_); (case side1 => repeat (first | exact HR0.out | (with_reducible refine Kd.C_alloc ?_ _) | (with_reducible refine Kd.C_drewN ?_ _) | (with_reducible refine Kd.C_drew ?_))); (case side2 => exact HC0.out); rintro e w7 ⟨v456, v458, rfl, ho0, ho1, hb⟩; refine ⟨_, rfl, ?_⟩; have n0_ := Aside0.mk (Kd.S_lower ho0 (below_size (by repeat (first | (with_reducible first | exact HB.out | apply below_alloc | apply pw_below_drewN | apply below_drew1) | exact HB.out)))); have n1_ := Aside0.mk (Kd.R_lower ho1 (below_size (by repeat (first | (with_reducible first | exact HB.out | apply below_alloc | apply pw_below_drewN | apply below_drew1) | exact HB.out)))); have n2_ := Aside0.mk (below_step (by repeat (first | (with_reducible first | exact HB.out | apply below_alloc | apply pw_below_drewN | apply below_drew1) | exact HB.out)) hb); clear HB; have HO457 := n0_; have HO459 := n1_; have HB := n2_; clear n0_ n1_ n2_; (try clear hb); (try clear hb2); (try clear hk); (try clear hi); (try clear ho0); (try clear ho1); obtain ⟨Ao8, co8, eo8⟩ := Kd.S_slice HO457.out; subst eo8; obtain ⟨Ao9, co9, eo9⟩ := Kd.R_slice HO459.out; subst eo9) | ((with_reducible refine gate_callee (f := 24) rfl ?_); refine goesL_ (some 22) rfl rfl Try.func24 (by kernel_rfl) rfl #[.slice Ao8 t454.length co8, .slice Ao9 t455.length co9] rfl (by (try simp only [List.map_toArray, List.map_cons, List.map_nil]); first | done | rfl | (simp only [List.length_drop, List.length_take]; rfl)) ?_; (with_reducible refine (impl_HeapGraph.calls k _ _ t454 _ _ t455 t460 t461 _ ?side1 ?side2 ?side3 ?side4 A4.out).mono ?_); (case side1 => repeat (first | exact (Kd.S_reads' HO457.out).2.2 | (with_reducible refine Kd.C_alloc ?_ _) | (with_reducible refine Kd.C_drewN ?_ _) | (with_reducible refine Kd.C_drew ?_))); (case side2 => exact (Kd.S_reads' HO457.out).2.1); (case side3 => repeat (first | exact (Kd.R_reads' HO459.out).2.2 | (with_reducible refine Kd.C_alloc ?_ _) | (with_reducible refine Kd.C_drewN ?_ _) | (with_reducible refine Kd.C_drew ?_))); (case side4 => exact (Kd.R_reads' HO459.out).2.1); rintro e w10 ⟨v462, v464, rfl, ho0, ho1, hb⟩; refine ⟨_, rfl, ?_⟩; have n0_ := Aside0.mk (Kd.S_mono (Kd.S_told (Kd.S_told (Kd.S_old (by (with_reducible repeat (first | apply Kd.S_alloc | apply Kd.S_drewN | apply Kd.S_drew)); exact HO457.out) hb) (Kd.S_base ho0)) (Kd.R_base ho1)) (fun _ h_ => h_.1)); have n1_ := Aside0.mk (Kd.R_elder' (by (with_reducible repeat (first | apply Kd.R_alloc | apply Kd.R_drewN | apply Kd.R_drew)); exact HO459.out) (Kd.R_base ho1) hb); have n2_ := Aside0.mk (Kd.S_lower (Kd.S_new' (Kd.S_new' ho0 (Kd.S_lt (by (with_reducible repeat (first | apply Kd.S_alloc | apply Kd.S_drewN | apply Kd.S_drew)); exact HO457.out))) (Kd.R_lt (by (with_reducible repeat (first | apply Kd.R_alloc | apply Kd.R_drewN | apply Kd.R_drew)); exact HO459.out))) (below_size (by repeat (first | (with_reducible first | exact HB.out | apply below_alloc | apply pw_below_drewN | apply below_drew1) | exact HB.out)))); have n3_ := Aside0.mk (Kd.R_lower (Kd.R_new' ho1 (Kd.R_lt (by (with_reducible repeat (first | apply Kd.R_alloc | apply Kd.R_drewN | apply Kd.R_drew)); exact HO459.out))) (below_size (by repeat (first | (with_reducible first | exact HB.out | apply below_alloc | apply pw_below_drewN | apply below_drew1) | exact HB.out)))); have n4_ := Aside0.mk (below_step (by repeat (first | (with_reducible first | exact HB.out | apply below_alloc | apply pw_below_drewN | apply below_drew1) | exact HB.out)) hb); clear HO457; clear HO459; clear HB; have HO457 := n0_; have HO459 := n1_; have HO463 := n2_; have HO465 := n3_; have HB := n4_; clear n0_ n1_ n2_ n3_ n4_; (try clear hb); (try clear hb2); (try clear hk); (try clear hi); (try clear ho0); (try clear ho1)) | ((with_reducible refine gate_callee (f := 23) rfl ?_); refine goesL_ (some 28) rfl rfl Try.func23 (by kernel_rfl) rfl #[.slice Ao8 t454.length co8, .slice Ao9 t455.length co9] rfl (by (try simp only [List.map_toArray, List.map_cons, List.map_nil]); first | done | rfl | (simp only [List.length_drop, List.length_take]; rfl)) ?_; (with_reducible refine (spec_HeapGraph.calls k _ _ t454 _ _ t455 t466 t467 _ ?side1 ?side2 ?side3 ?side4 A5.out).mono ?_); (case side1 => repeat (first | exact (Kd.S_reads' HO457.out).2.2 | (with_reducible refine Kd.C_alloc ?_ _) | (with_reducible refine Kd.C_drewN ?_ _) | (with_reducible refine Kd.C_drew ?_))); (case side2 => exact (Kd.S_reads' HO457.out).2.1); (case side3 => repeat (first | exact (Kd.R_reads' HO459.out).2.2 | (with_reducible refine Kd.C_alloc ?_ _) | (with_reducible refine Kd.C_drewN ?_ _) | (with_reducible refine Kd.C_drew ?_))); (case side4 => exact (Kd.R_reads' HO459.out).2.1); rintro e w11 ⟨v468, v470, rfl, ho0, ho1, hb⟩; refine ⟨_, rfl, ?_⟩; have n0_ := Aside0.mk (Kd.S_mono (Kd.S_told (Kd.S_told (Kd.S_old (by (with_reducible repeat (first | apply Kd.S_alloc | apply Kd.S_drewN | apply Kd.S_drew)); exact HO457.out) hb) (Kd.S_base ho0)) (Kd.R_base ho1)) (fun _ h_ => h_.1)); have n1_ := Aside0.mk (Kd.R_elder' (by (with_reducible repeat (first | apply Kd.R_alloc | apply Kd.R_drewN | apply Kd.R_drew)); exact HO459.out) (Kd.R_base ho1) hb); have n2_ := Aside0.mk (Kd.S_mono (Kd.S_told (Kd.S_told (Kd.S_old (by (with_reducible repeat (first | apply Kd.S_alloc | apply Kd.S_drewN | apply Kd.S_drew)); exact HO463.out) hb) (Kd.S_base ho0)) (Kd.R_base ho1)) (fun _ h_ => h_.1)); have n3_ := Aside0.mk (Kd.R_elder' (by (with_reducible repeat (first | apply Kd.R_alloc | apply Kd.R_drewN | apply Kd.R_drew)); exact HO465.out) (Kd.R_base ho1) hb); have n4_ := Aside0.mk (Kd.S_lower (Kd.S_new' (Kd.S_new' (Kd.S_new' (Kd.S_new' ho0 (Kd.S_lt (by (with_reducible repeat (first | apply Kd.S_alloc | apply Kd.S_drewN | apply Kd.S_drew)); exact HO457.out))) (Kd.R_lt (by (with_reducible repeat (first | apply Kd.R_alloc | apply Kd.R_drewN | apply Kd.R_drew)); exact HO459.out))) (Kd.S_lt (by (with_reducible repeat (first | apply Kd.S_alloc | apply Kd.S_drewN | apply Kd.S_drew)); exact HO463.out))) (Kd.R_lt (by (with_reducible repeat (first | apply Kd.R_alloc | apply Kd.R_drewN | apply Kd.R_drew)); exact HO465.out))) (below_size (by repeat (first | (with_reducible first | exact HB.out | apply below_alloc | apply pw_below_drewN | apply below_drew1) | exact HB.out)))); have n5_ := Aside0.mk (Kd.R_lower (Kd.R_new' (Kd.R_new' ho1 (Kd.R_lt (by (with_reducible repeat (first | apply Kd.R_alloc | apply Kd.R_drewN | apply Kd.R_drew)); exact HO459.out))) (Kd.R_lt (by (with_reducible repeat (first | apply Kd.R_alloc | apply Kd.R_drewN | apply Kd.R_drew)); exact HO465.out))) (below_size (by repeat (first | (with_reducible first | exact HB.out | apply below_alloc | apply pw_below_drewN | apply below_drew1) | exact HB.out)))); have n6_ := Aside0.mk (below_step (by repeat (first | (with_reducible first | exact HB.out | apply below_alloc | apply pw_below_drewN | apply below_drew1) | exact HB.out)) hb); clear HO457; clear HO459; clear HO463; clear HO465; clear HB; have HO457 := n0_; have HO459 := n1_; have HO463 := n2_; have HO465 := n3_; have HO469 := n4_; have HO471 := n5_; have HB := n6_; clear n0_ n1_ n2_ n3_ n4_ n5_ n6_; (try clear hb); (try clear hb2); (try clear hk); (try clear hi); (try clear ho0); (try clear ho1)))
    (try simp only [Act.put, List.setIfInBounds_toArray, List.set_cons_zero, List.set_cons_succ])
    go_cut [40] (fun v40 wc => ∃ (kq : Nat) (x40_5 : Bool), v40 = .bool x40_5 ∧ Aside0 (laws_FnGraphTwice.j0 kq t454 t460 t461 x40_5 = some r) ∧ Aside0 (kq ≤ k) ∧ Aside0 (Kd.S k48 48 wc w.heap.size (fun k_ => some k_ ≠ (v462 : Value).ownBlock ∧ some k_ ≠ (v464 : Value).ownBlock) (.slice Ao8 t454.length co8) t454) ∧ Aside0 (Kd.S k48 48 wc w.heap.size (fun k_ => some k_ ≠ ((.slice Ao8 t454.length co8) : Value).ownBlock ∧ some k_ ≠ (v464 : Value).ownBlock) v462 t460) ∧ Aside0 (Kd.R k46 46 wc w.heap.size (fun _ => True) v464 t461) ∧ Aside0 (Below w.heap.size w wc))
    case first =>
      have H := HC6.out
      clear HC6
      replace H := Option.bind_eq_some_iff.mp H
      obtain ⟨t472, A120, H⟩ := H
      replace H : (if t472 = true then ((laws_leVals.f k t461 t467).bind fun t473 => (laws_FnGraphTwice.j0 k t454 t460 t461 (!t473))) else (laws_FnGraphTwice.j0 k t454 t460 t461 true)) = some r := H
      have A12 := Aside0.mk A120
      clear A120
      by_cases c13 : t472 = true
      · subst c13
        have H1 : ((laws_leVals.f k t461 t467).bind fun t473 => (laws_FnGraphTwice.j0 k t454 t460 t461 (!t473))) = some r := by rw [if_pos rfl] at H; exact H
        clear H
        have H := H1
        clear H1
        replace H := Option.bind_eq_some_iff.mp H
        obtain ⟨t473, A140, H⟩ := H
        replace H : (laws_FnGraphTwice.j0 k t454 t460 t461 (!t473)) = some r := H
        have A14 := Aside0.mk A140
        clear A140
        have H' := Aside0.mk H
        clear H
        obtain ⟨Ao15, co15, eo15⟩ := Kd.S_slice HO463.out
        subst eo15
        obtain ⟨Ao16, co16, eo16⟩ := Kd.S_slice HO469.out
        subst eo16
        go_wp2_with (first | ((with_reducible refine gate_callee (f := 30) rfl ?_); refine goesL_ (some 33) rfl rfl Try.func30 (by kernel_rfl) rfl #[.slice Ao15 t460.length co15, .slice Ao16 t466.length co16] rfl (by (try simp only [List.map_toArray, List.map_cons, List.map_nil]); first | done | rfl | (simp only [List.length_drop, List.length_take]; rfl)) ?_; (with_reducible refine (laws_leObjs.calls k _ _ t460 _ _ t466 true _ ?side1 ?side2 ?side3 ?side4 A12.out).mono ?_); (case side1 => repeat (first | exact (Kd.S_reads' HO463.out).2.2 | (with_reducible refine Kd.C_alloc ?_ _) | (with_reducible refine Kd.C_drewN ?_ _) | (with_reducible refine Kd.C_drew ?_))); (case side2 => exact (Kd.S_reads' HO463.out).2.1); (case side3 => repeat (first | exact (Kd.S_reads' HO469.out).2.2 | (with_reducible refine Kd.C_alloc ?_ _) | (with_reducible refine Kd.C_drewN ?_ _) | (with_reducible refine Kd.C_drew ?_))); (case side4 => exact (Kd.S_reads' HO469.out).2.1); rintro e w' ⟨rfl, ⟨nd, rfl⟩⟩; refine ⟨_, rfl, ?_⟩; obtain ⟨Ao17, co17, eo17⟩ := Kd.R_slice HO465.out; subst eo17; obtain ⟨Ao18, co18, eo18⟩ := Kd.R_slice HO471.out; subst eo18) | (go_at_call 31; (with_reducible refine (laws_leVals.calls k _ _ t461 _ _ t467 t473 _ ?side1 ?side2 ?side3 ?side4 A14.out).mono ?_); (case side1 => repeat (first | exact (Kd.R_reads' HO465.out).2.2 | (with_reducible refine Kd.C_alloc ?_ _) | (with_reducible refine Kd.C_drewN ?_ _) | (with_reducible refine Kd.C_drew ?_))); (case side2 => exact (Kd.R_reads' HO465.out).2.1); (case side3 => repeat (first | exact (Kd.R_reads' HO471.out).2.2 | (with_reducible refine Kd.C_alloc ?_ _) | (with_reducible refine Kd.C_drewN ?_ _) | (with_reducible refine Kd.C_drew ?_))); (case side4 => exact (Kd.R_reads' HO471.out).2.1); rintro e w' ⟨rfl, ⟨nd, rfl⟩⟩))
        go_meet
        case rel => exact ⟨_, (!t473), (by first | rfl | (simp; done) | (simp [*]; done)), H', ⟨by first | omega | exact Nat.le_refl _⟩, ⟨by (with_reducible repeat (first | apply Kd.S_alloc | apply Kd.S_drewN | apply Kd.S_drew)); exact Kd.S_mono HO457.out (fun _ hk => ⟨hk.1.1.1.2, hk.1.1.2⟩)⟩, ⟨by (with_reducible repeat (first | apply Kd.S_alloc | apply Kd.S_drewN | apply Kd.S_drew)); exact Kd.S_mono HO463.out (fun _ hk => ⟨hk.1.1.1.2, hk.1.1.1.1⟩)⟩, ⟨by (with_reducible repeat (first | apply Kd.R_alloc | apply Kd.R_drewN | apply Kd.R_drew)); exact Kd.R_mono HO465.out (fun _ hk => trivial)⟩, ⟨by repeat (first | (with_reducible first | exact HB.out | apply below_alloc | apply pw_below_drewN | apply below_drew1) | exact HB.out)⟩⟩
      · replace c13 := Bool.eq_false_iff.mpr c13
        subst c13
        have H1 : (laws_FnGraphTwice.j0 k t454 t460 t461 true) = some r := by rw [if_neg (show ¬ (false = true) by decide)] at H; exact H
        clear H
        have H := H1
        clear H1
        have H' := Aside0.mk H
        clear H
        obtain ⟨Ao19, co19, eo19⟩ := Kd.S_slice HO463.out
        subst eo19
        obtain ⟨Ao20, co20, eo20⟩ := Kd.S_slice HO469.out
        subst eo20
        go_wp2_with (first | ((with_reducible refine gate_callee (f := 30) rfl ?_); refine goesL_ (some 33) rfl rfl Try.func30 (by kernel_rfl) rfl #[.slice Ao19 t460.length co19, .slice Ao20 t466.length co20] rfl (by (try simp only [List.map_toArray, List.map_cons, List.map_nil]); first | done | rfl | (simp only [List.length_drop, List.length_take]; rfl)) ?_; (with_reducible refine (laws_leObjs.calls k _ _ t460 _ _ t466 false _ ?side1 ?side2 ?side3 ?side4 A12.out).mono ?_); (case side1 => repeat (first | exact (Kd.S_reads' HO463.out).2.2 | (with_reducible refine Kd.C_alloc ?_ _) | (with_reducible refine Kd.C_drewN ?_ _) | (with_reducible refine Kd.C_drew ?_))); (case side2 => exact (Kd.S_reads' HO463.out).2.1); (case side3 => repeat (first | exact (Kd.S_reads' HO469.out).2.2 | (with_reducible refine Kd.C_alloc ?_ _) | (with_reducible refine Kd.C_drewN ?_ _) | (with_reducible refine Kd.C_drew ?_))); (case side4 => exact (Kd.S_reads' HO469.out).2.1); rintro e w' ⟨rfl, ⟨nd, rfl⟩⟩; refine ⟨_, rfl, ?_⟩))
        go_meet
        case rel => exact ⟨_, (true), (by first | rfl | (simp; done) | (simp [*]; done)), H', ⟨by first | omega | exact Nat.le_refl _⟩, ⟨by (with_reducible repeat (first | apply Kd.S_alloc | apply Kd.S_drewN | apply Kd.S_drew)); exact Kd.S_mono HO457.out (fun _ hk => ⟨hk.1.1.1.2, hk.1.1.2⟩)⟩, ⟨by (with_reducible repeat (first | apply Kd.S_alloc | apply Kd.S_drewN | apply Kd.S_drew)); exact Kd.S_mono HO463.out (fun _ hk => ⟨hk.1.1.1.2, hk.1.1.1.1⟩)⟩, ⟨by (with_reducible repeat (first | apply Kd.R_alloc | apply Kd.R_drewN | apply Kd.R_drew)); exact Kd.R_mono HO465.out (fun _ hk => trivial)⟩, ⟨by repeat (first | (with_reducible first | exact HB.out | apply below_alloc | apply pw_below_drewN | apply below_drew1) | exact HB.out)⟩⟩
    case rest =>
      clear HC6
      try clear c1
      try clear c2
      try clear c2b0
      try clear c2b1
      try clear p2
      try clear c3
      try clear c10
      try clear c13
      obtain ⟨kq, x40_5, rfl, HA, HJ5, HO_3, HO_5, HO_6, HB⟩ := hcut
      cases kq with
      | zero => exact absurd HA.out (by simp [laws_FnGraphTwice.j0])
      | succ kj5 =>
        have H := HA.out
        clear HA
        simp only [laws_FnGraphTwice.j0] at H
        by_cases c21 : x40_5 = true
        · subst c21
          have H1 : (some false) = some r := by rw [if_pos rfl] at H; exact H
          clear H
          have H := H1
          clear H1
          obtain rfl := Option.some.inj H
          exact absurd hr_ (by decide)
        · replace c21 := Bool.eq_false_iff.mpr c21
          subst c21
          have H1 : ((impl_HeapGraph.f kj5 t460 t461).bind fun bt474 => ((laws_leObjs.f kj5 bt474.1 t460).bind fun t480 => (if t480 = true then ((laws_leVals.f kj5 bt474.2 t461).bind fun t481 => (if t481 = true then (if (t460.length : Int) ≤ (t454.length : Int) then ((impl_HeapOk.f kj5 t460 t461).bind fun t482 => (some t482)) else (some false)) else (some false))) else (some false)))) = some r := by rw [if_neg (show ¬ (false = true) by decide)] at H; exact H
          clear H
          have H := H1
          clear H1
          replace H := Option.bind_eq_some_iff.mp H
          obtain ⟨⟨t474, t475⟩, A220, H⟩ := H
          replace H : ((laws_leObjs.f kj5 t474 t460).bind fun t480 => (if t480 = true then ((laws_leVals.f kj5 t475 t461).bind fun t481 => (if t481 = true then (if (t460.length : Int) ≤ (t454.length : Int) then ((impl_HeapOk.f kj5 t460 t461).bind fun t482 => (some t482)) else (some false)) else (some false))) else (some false))) = some r := H
          have A22 := Aside0.mk A220
          clear A220
          replace H := Option.bind_eq_some_iff.mp H
          obtain ⟨t480, A230, H⟩ := H
          replace H : (if t480 = true then ((laws_leVals.f kj5 t475 t461).bind fun t481 => (if t481 = true then (if (t460.length : Int) ≤ (t454.length : Int) then ((impl_HeapOk.f kj5 t460 t461).bind fun t482 => (some t482)) else (some false)) else (some false))) else (some false)) = some r := H
          have A23 := Aside0.mk A230
          clear A230
          by_cases c24 : t480 = true
          · subst c24
            have H1 : ((laws_leVals.f kj5 t475 t461).bind fun t481 => (if t481 = true then (if (t460.length : Int) ≤ (t454.length : Int) then ((impl_HeapOk.f kj5 t460 t461).bind fun t482 => (some t482)) else (some false)) else (some false))) = some r := by rw [if_pos rfl] at H; exact H
            clear H
            have H := H1
            clear H1
            replace H := Option.bind_eq_some_iff.mp H
            obtain ⟨t481, A250, H⟩ := H
            replace H : (if t481 = true then (if (t460.length : Int) ≤ (t454.length : Int) then ((impl_HeapOk.f kj5 t460 t461).bind fun t482 => (some t482)) else (some false)) else (some false)) = some r := H
            have A25 := Aside0.mk A250
            clear A250
            by_cases c26 : t481 = true
            · subst c26
              have H1 : (if (t460.length : Int) ≤ (t454.length : Int) then ((impl_HeapOk.f kj5 t460 t461).bind fun t482 => (some t482)) else (some false)) = some r := by rw [if_pos rfl] at H; exact H
              clear H
              have H := H1
              clear H1
              by_cases c27 : (t460.length : Int) ≤ (t454.length : Int)
              · rw [if_pos c27] at H
                have c27b0 : decide ((t460.length : Int) ≤ (t454.length : Int)) = true := decide_eq_true c27
                have c27b1 : decide (t460.length ≤ t454.length) = true := decide_eq_true (Int.ofNat_le.mp c27)
                clear c27
                replace H := Option.bind_eq_some_iff.mp H
                obtain ⟨t482, A280, H⟩ := H
                replace H : (some t482) = some r := H
                have A28 := Aside0.mk A280
                clear A280
                obtain rfl := Option.some.inj H
                simp only [Option.some.injEq, Prod.mk.injEq] at H
                obtain ⟨rfl⟩ := H
                obtain ⟨Ao29, co29, eo29⟩ := Kd.S_slice HO_5.out
                subst eo29
                obtain ⟨Ao30, co30, eo30⟩ := Kd.R_slice HO_6.out
                subst eo30
                go_wp2_with (first | ((with_reducible refine gate_callee (f := 24) rfl ?_); refine goesL_ (some 44) rfl rfl Try.func24 (by kernel_rfl) rfl #[.slice Ao29 t460.length co29, .slice Ao30 t461.length co30] rfl (by (try simp only [List.map_toArray, List.map_cons, List.map_nil]); first | done | rfl | (simp only [List.length_drop, List.length_take]; rfl)) ?_; (with_reducible refine (impl_HeapGraph.calls kj5 _ _ t460 _ _ t461 t474 t475 _ ?side1 ?side2 ?side3 ?side4 A22.out).mono ?_); (case side1 => repeat (first | exact (Kd.S_reads' HO_5.out).2.2 | (with_reducible refine Kd.C_alloc ?_ _) | (with_reducible refine Kd.C_drewN ?_ _) | (with_reducible refine Kd.C_drew ?_))); (case side2 => exact (Kd.S_reads' HO_5.out).2.1); (case side3 => repeat (first | exact (Kd.R_reads' HO_6.out).2.2 | (with_reducible refine Kd.C_alloc ?_ _) | (with_reducible refine Kd.C_drewN ?_ _) | (with_reducible refine Kd.C_drew ?_))); (case side4 => exact (Kd.R_reads' HO_6.out).2.1); rintro e w31 ⟨v476, v478, rfl, ho0, ho1, hb⟩; refine ⟨_, rfl, ?_⟩; have n0_ := Aside0.mk (Kd.S_mono (Kd.S_told (Kd.S_told (Kd.S_old (by (with_reducible repeat (first | apply Kd.S_alloc | apply Kd.S_drewN | apply Kd.S_drew)); exact HO_3.out) hb) (Kd.S_base ho0)) (Kd.R_base ho1)) (fun _ h_ => h_.1)); have n1_ := Aside0.mk (Kd.S_mono (Kd.S_told (Kd.S_told (Kd.S_old (by (with_reducible repeat (first | apply Kd.S_alloc | apply Kd.S_drewN | apply Kd.S_drew)); exact HO_5.out) hb) (Kd.S_base ho0)) (Kd.R_base ho1)) (fun _ h_ => h_.1)); have n2_ := Aside0.mk (Kd.R_elder' (by (with_reducible repeat (first | apply Kd.R_alloc | apply Kd.R_drewN | apply Kd.R_drew)); exact HO_6.out) (Kd.R_base ho1) hb); have n3_ := Aside0.mk (Kd.S_lower (Kd.S_new' (Kd.S_new' (Kd.S_new' ho0 (Kd.S_lt (by (with_reducible repeat (first | apply Kd.S_alloc | apply Kd.S_drewN | apply Kd.S_drew)); exact HO_3.out))) (Kd.S_lt (by (with_reducible repeat (first | apply Kd.S_alloc | apply Kd.S_drewN | apply Kd.S_drew)); exact HO_5.out))) (Kd.R_lt (by (with_reducible repeat (first | apply Kd.R_alloc | apply Kd.R_drewN | apply Kd.R_drew)); exact HO_6.out))) (below_size (by repeat (first | (with_reducible first | exact HB.out | apply below_alloc | apply pw_below_drewN | apply below_drew1) | exact HB.out)))); have n4_ := Aside0.mk (Kd.R_lower (Kd.R_new' ho1 (Kd.R_lt (by (with_reducible repeat (first | apply Kd.R_alloc | apply Kd.R_drewN | apply Kd.R_drew)); exact HO_6.out))) (below_size (by repeat (first | (with_reducible first | exact HB.out | apply below_alloc | apply pw_below_drewN | apply below_drew1) | exact HB.out)))); have n5_ := Aside0.mk (below_step (by repeat (first | (with_reducible first | exact HB.out | apply below_alloc | apply pw_below_drewN | apply below_drew1) | exact HB.out)) hb); clear HO_3; clear HO_5; clear HO_6; clear HB; have HO_3 := n0_; have HO_5 := n1_; have HO_6 := n2_; have HO477 := n3_; have HO479 := n4_; have HB := n5_; clear n0_ n1_ n2_ n3_ n4_ n5_; (try clear hb); (try clear hb2); (try clear hk); (try clear hi); (try clear ho0); (try clear ho1); obtain ⟨Ao32, co32, eo32⟩ := Kd.S_slice HO477.out; subst eo32) | ((with_reducible refine gate_callee (f := 30) rfl ?_); refine goesL_ (some 49) rfl rfl Try.func30 (by kernel_rfl) rfl #[.slice Ao32 t474.length co32, .slice Ao29 t460.length co29] rfl (by (try simp only [List.map_toArray, List.map_cons, List.map_nil]); first | done | rfl | (simp only [List.length_drop, List.length_take]; rfl)) ?_; (with_reducible refine (laws_leObjs.calls kj5 _ _ t474 _ _ t460 true _ ?side1 ?side2 ?side3 ?side4 A23.out).mono ?_); (case side1 => repeat (first | exact (Kd.S_reads' HO477.out).2.2 | (with_reducible refine Kd.C_alloc ?_ _) | (with_reducible refine Kd.C_drewN ?_ _) | (with_reducible refine Kd.C_drew ?_))); (case side2 => exact (Kd.S_reads' HO477.out).2.1); (case side3 => repeat (first | exact (Kd.S_reads' HO_5.out).2.2 | (with_reducible refine Kd.C_alloc ?_ _) | (with_reducible refine Kd.C_drewN ?_ _) | (with_reducible refine Kd.C_drew ?_))); (case side4 => exact (Kd.S_reads' HO_5.out).2.1); rintro e w' ⟨rfl, ⟨nd, rfl⟩⟩; refine ⟨_, rfl, ?_⟩; obtain ⟨Ao33, co33, eo33⟩ := Kd.R_slice HO479.out; subst eo33) | (go_at_call 31; (with_reducible refine (laws_leVals.calls kj5 _ _ t475 _ _ t461 true _ ?side1 ?side2 ?side3 ?side4 A25.out).mono ?_); (case side1 => repeat (first | exact (Kd.R_reads' HO479.out).2.2 | (with_reducible refine Kd.C_alloc ?_ _) | (with_reducible refine Kd.C_drewN ?_ _) | (with_reducible refine Kd.C_drew ?_))); (case side2 => exact (Kd.R_reads' HO479.out).2.1); (case side3 => repeat (first | exact (Kd.R_reads' HO_6.out).2.2 | (with_reducible refine Kd.C_alloc ?_ _) | (with_reducible refine Kd.C_drewN ?_ _) | (with_reducible refine Kd.C_drew ?_))); (case side4 => exact (Kd.R_reads' HO_6.out).2.1); rintro e w' ⟨rfl, ⟨nd, rfl⟩⟩) | (go_at_call 20; (with_reducible refine (impl_HeapOk.calls kj5 _ _ t460 _ _ t461 t482 _ ?side1 ?side2 ?side3 ?side4 A28.out).mono ?_); (case side1 => repeat (first | exact (Kd.S_reads' HO_5.out).2.2 | (with_reducible refine Kd.C_alloc ?_ _) | (with_reducible refine Kd.C_drewN ?_ _) | (with_reducible refine Kd.C_drew ?_))); (case side2 => exact (Kd.S_reads' HO_5.out).2.1); (case side3 => repeat (first | exact (Kd.R_reads' HO_6.out).2.2 | (with_reducible refine Kd.C_alloc ?_ _) | (with_reducible refine Kd.C_drewN ?_ _) | (with_reducible refine Kd.C_drew ?_))); (case side4 => exact (Kd.R_reads' HO_6.out).2.1); rintro e w34 ⟨rfl, hb⟩; have n0_ := Aside0.mk (Kd.S_below (by (with_reducible repeat (first | apply Kd.S_alloc | apply Kd.S_drewN | apply Kd.S_drew)); exact HO_3.out) hb); have n1_ := Aside0.mk (Kd.S_below (by (with_reducible repeat (first | apply Kd.S_alloc | apply Kd.S_drewN | apply Kd.S_drew)); exact HO_5.out) hb); have n2_ := Aside0.mk (Kd.R_below (by (with_reducible repeat (first | apply Kd.R_alloc | apply Kd.R_drewN | apply Kd.R_drew)); exact HO_6.out) hb); have n3_ := Aside0.mk (Kd.S_below (by (with_reducible repeat (first | apply Kd.S_alloc | apply Kd.S_drewN | apply Kd.S_drew)); exact HO477.out) hb); have n4_ := Aside0.mk (Kd.R_below (by (with_reducible repeat (first | apply Kd.R_alloc | apply Kd.R_drewN | apply Kd.R_drew)); exact HO479.out) hb); have n5_ := Aside0.mk (below_step (by repeat (first | (with_reducible first | exact HB.out | apply below_alloc | apply pw_below_drewN | apply below_drew1) | exact HB.out)) hb); clear HO_3; clear HO_5; clear HO_6; clear HO477; clear HO479; clear HB; have HO_3 := n0_; have HO_5 := n1_; have HO_6 := n2_; have HO477 := n3_; have HO479 := n4_; have HB := n5_; clear n0_ n1_ n2_ n3_ n4_ n5_; (try clear hb); (try clear hb2); (try clear hk); (try clear hi)))
                go_ret
                exact ⟨by first | rfl | (simp [errW_none, errW_some] <;> rfl) | (simp [*, errW_none, errW_some] <;> rfl), by repeat (first | (with_reducible first | exact HB.out | apply below_alloc | apply pw_below_drewN | apply below_drew1) | exact HB.out)⟩
              · rw [if_neg c27] at H
                have c27b0 : decide ((t460.length : Int) ≤ (t454.length : Int)) = false := decide_eq_false c27
                have c27b1 : decide (t460.length ≤ t454.length) = false := decide_eq_false (fun h => c27 (Int.ofNat_le.mpr h))
                clear c27
                obtain rfl := Option.some.inj H
                exact absurd hr_ (by decide)
            · replace c26 := Bool.eq_false_iff.mpr c26
              subst c26
              have H1 : (some false) = some r := by rw [if_neg (show ¬ (false = true) by decide)] at H; exact H
              clear H
              have H := H1
              clear H1
              obtain rfl := Option.some.inj H
              exact absurd hr_ (by decide)
          · replace c24 := Bool.eq_false_iff.mpr c24
            subst c24
            have H1 : (some false) = some r := by rw [if_neg (show ¬ (false = true) by decide)] at H; exact H
            clear H
            have H := H1
            clear H1
            obtain rfl := Option.some.inj H
            exact absurd hr_ (by decide)
theorem laws_FnGraphTwice.walk (P : laws_FnGraphTwice.Pure) (a0 : Option Addr) (len0 cap0 : Nat) (z0 : List Int) (w : World) (w0 : (a0 = none ∧ len0 = 0 ∧ cap0 = 0 ∧ z0 = []) ∨ ∃ x, a0 = some x ∧ len0 ≤ cap0 ∧ cap0 ≤ maxLen ∧ z0.length = cap0 ∧ (∀ i, i < z0.length → w.cell? (x.add i) = some (.int .u8 (z0.getD i 0))) ∧ ∀ n ∈ z0, (Lit.int .u8 n).wf = true) (y0 : len0 * 1 ≤ 140737488351232) :
    Calls Try.prog 10 #[.slice a0 len0 cap0] w fun e w' => e = .returned (.bool true) ∧ Below w.heap.size w w' := by
  obtain ⟨l0, rfl, hr0, hm0, hw0, hc0⟩ := ReadsInt.ofRowC w0
  obtain ⟨k, h⟩ := P l0 hm0 y0 hw0
  refine (laws_FnGraphTwice.calls k _ _ l0 true w (Kd.C_of_reads (d := (0 : Int)) (h1 := fun _ => rfl) hr0) hc0 h rfl).mono ?_
  rintro e w' ⟨rfl, hd⟩
  exact ⟨rfl, hd⟩
end Go.Proofs.Yteeakklnlcjgbaa.P

end
section

namespace Go.Proofs.Yteeakklnlcjgbaa.Kit
open Go Go.RowKit Go.Proofs.YteeakklnlcjgbaaW.PrintWords
set_option linter.unusedVariables false
def Evp {α : Type} (g : Nat → Option α) (P : α → Prop) : Prop := ∃ r, Ev g r ∧ P r
theorem Evp.pure {α : Type} {P : α → Prop} (r : α) (h : P r) : Evp (fun _ => some r) P := ⟨r, Ev.now r, h⟩
theorem Evp.bind {α β : Type} {g : Nat → Option α} {f : Nat → α → Option β} {P : α → Prop} {Q : β → Prop} (h : Evp g P) (k : ∀ a, P a → Evp (fun n => f n a) Q) : Evp (fun n => (g n).bind (f n)) Q := by
  obtain ⟨a, ha, hp⟩ := h
  obtain ⟨r, hr, hq⟩ := k a hp
  exact ⟨r, Ev.bind ha hr, hq⟩
theorem Evp.step {α : Type} {g f : Nat → Option α} {P : α → Prop} (h : ∀ k, g (k + 1) = f k) (k : Evp f P) : Evp g P := by
  obtain ⟨r, hr, hp⟩ := k
  exact ⟨r, Ev.step h hr, hp⟩
theorem Evp.congr {α : Type} {g f : Nat → Option α} {P : α → Prop} (h : ∀ k, g k = f k) (k : Evp f P) : Evp g P := by
  obtain ⟨r, hr, hp⟩ := k
  exact ⟨r, Ev.congr h hr, hp⟩
theorem Evp.mono {α : Type} {g : Nat → Option α} {P Q : α → Prop} (h : Evp g P) (hpq : ∀ r, P r → Q r) : Evp g Q := by
  obtain ⟨r, hr, hp⟩ := h
  exact ⟨r, hr, hpq r hp⟩
theorem Evp.yes {α : Type} {c : Prop} [Decidable c] {f g : Nat → Option α} {P : α → Prop} (hc : c) (h : Evp f P) : Evp (fun n => if c then f n else g n) P := by
  simp only [if_pos hc]; exact h
theorem Evp.no {α : Type} {c : Prop} [Decidable c] {f g : Nat → Option α} {P : α → Prop} (hc : ¬ c) (h : Evp g P) : Evp (fun n => if c then f n else g n) P := by
  simp only [if_neg hc]; exact h
theorem Evp.ite {α : Type} {c : Prop} [Decidable c] {f g : Nat → Option α} {P : α → Prop} (h : c → Evp f P) (k : ¬ c → Evp g P) : Evp (fun n => if c then f n else g n) P := by
  by_cases hc : c
  · exact Evp.yes hc (h hc)
  · exact Evp.no hc (k hc)
theorem Ev.of_evp {α : Type} {g : Nat → Option α} {r : α} (h : Evp g (fun x => x = r)) : Ev g r := by
  obtain ⟨x, hx, rfl⟩ := h
  exact hx
theorem Evp.rounds {α : Type} {g : Nat → Option α} {r : α} (h : Evp g (fun x => x = r)) : ∃ k, g k = some r := (Ev.of_evp h).rounds
theorem Evp.for_ {ρ : Type} {n : Nat} {g : Nat → Nat → Option ρ} {R : Nat → ρ → Prop} (hend : Evp (g n) (R n)) (hstep : ∀ i, i < n → Evp (g (i + 1)) (R (i + 1)) → Evp (g i) (R i)) : ∀ i, i ≤ n → Evp (g i) (R i) := by
  have key : ∀ d i, i + d = n → Evp (g i) (R i) := by
    intro d
    induction d with
    | zero => intro i hi; have : i = n := by omega
              subst this; exact hend
    | succ d ih => intro i hi; exact hstep i (by omega) (ih (i + 1) (by omega))
  intro i hi
  exact key (n - i) i (by omega)
theorem Evp.fors {σ ρ : Type} {n : Nat} {g : Nat → σ → Nat → Option ρ} {I : Nat → σ → Prop} {R : Nat → σ → ρ → Prop} (hend : ∀ s, I n s → Evp (g n s) (R n s))
    (hstep : ∀ i, i < n → (∀ s, I (i + 1) s → Evp (g (i + 1) s) (R (i + 1) s)) → ∀ s, I i s → Evp (g i s) (R i s)) : ∀ i, i ≤ n → ∀ s, I i s → Evp (g i s) (R i s) := by
  have key : ∀ d i, i + d = n → ∀ s, I i s → Evp (g i s) (R i s) := by
    intro d
    induction d with
    | zero => intro i hi; have : i = n := by omega
              subst this; exact hend
    | succ d ih => intro i hi; exact hstep i (by omega) (ih (i + 1) (by omega))
  intro i hi
  exact key (n - i) i (by omega)
theorem drop_at {α : Type} {xs : List α} {i : Nat} (h : i < xs.length) : xs.drop i = xs[i] :: xs.drop (i + 1) := List.drop_eq_getElem_cons h
theorem getD_at {α : Type} {xs : List α} {i : Nat} (h : i < xs.length) (d : α) : xs.getD i d = xs[i] := by
  rw [List.getD_eq_getElem?_getD, List.getElem?_eq_getElem h]; rfl
theorem w64' {i n : Nat} (h : i < n) (hn : n ≤ 9223372036854775807) : wrap64 ((i : Int) + 1) = ((i + 1 : Nat) : Int) := by unfold wrap64; omega
theorem w64 {n : Int} (h0 : -9223372036854775808 ≤ n) (h1 : n ≤ 9223372036854775807) : wrap64 n = n := by unfold wrap64; omega
theorem tmod_pos {a b : Int} (h0 : 0 ≤ a) : Int.tmod a b = a % b := Int.tmod_eq_emod_of_nonneg h0
theorem tdiv_pos {a b : Int} (h0 : 0 ≤ a) : Int.tdiv a b = a / b := Int.tdiv_eq_ediv_of_nonneg h0
theorem tmod_lo {a b : Int} (h0 : 0 ≤ a) (hb : 0 < b) : 0 ≤ Int.tmod a b ∧ Int.tmod a b < b := by
  rw [tmod_pos h0]; exact ⟨Int.emod_nonneg _ (by omega), Int.emod_lt_of_pos _ hb⟩
theorem xor_nonneg {a b : Int} (ha : 0 ≤ a) (ha' : a < 4611686018427387904) (hb : 0 ≤ b) (hb' : b < 4611686018427387904) :
    0 ≤ Go.bits .xor .i64 a b ∧ Go.bits .xor .i64 a b < 4611686018427387904 := by
  obtain ⟨x, rfl⟩ := Int.eq_ofNat_of_zero_le ha
  obtain ⟨y, rfl⟩ := Int.eq_ofNat_of_zero_le hb
  have hx : x < 2 ^ 62 := by omega
  have hy : y < 2 ^ 62 := by omega
  have hxy := Nat.xor_lt_two_pow hx hy
  have e : Go.bits .xor .i64 (x : Int) (y : Int) = ((x ^^^ y : Nat) : Int) := by
    show IntKind.i64.wrap (((BitVec.ofInt 64 (x : Int)) ^^^ (BitVec.ofInt 64 (y : Int))).toNat : Int) = _
    rw [BitVec.toNat_xor]
    have e1 : (BitVec.ofInt 64 (x : Int)).toNat = x := by simp; omega
    have e2 : (BitVec.ofInt 64 (y : Int)).toNat = y := by simp; omega
    rw [e1, e2, IntKind.wrap_i64]
    omega
  rw [e]
  omega
end Go.Proofs.Yteeakklnlcjgbaa.Kit

end
section

namespace Go.Proofs.Yteeakklnlcjgbaa.P
open Go.RowKit Go.Proofs.YteeakklnlcjgbaaW.PrintWords Go.Proofs.YteeakklnlcjgbaaW.PrintLast Go.Proofs.YteeakklnlcjgbaaW.PrintMore
attribute [local go_sem] max2_int min2_int max_two min_two max_three min_three max_four min_four
set_option linter.unusedVariables false
set_option linter.unusedSimpArgs false
end Go.Proofs.Yteeakklnlcjgbaa.P

end
section

namespace Go.Proofs.Yteeakklnlcjgbaa.P
open Go.RowKit Go.Proofs.YteeakklnlcjgbaaW.PrintWords Go.Proofs.YteeakklnlcjgbaaW.PrintLast Go.Proofs.YteeakklnlcjgbaaW.PrintMore
attribute [local go_sem] max2_int min2_int max_two min_two max_three min_three max_four min_four
set_option linter.unusedVariables false
set_option linter.unusedSimpArgs false
end Go.Proofs.Yteeakklnlcjgbaa.P

end
section

namespace Go.Proofs.Yteeakklnlcjgbaa.P
open Go.RowKit Go.Proofs.YteeakklnlcjgbaaW.PrintWords Go.Proofs.YteeakklnlcjgbaaW.PrintLast Go.Proofs.YteeakklnlcjgbaaW.PrintMore
attribute [local go_sem] max2_int min2_int max_two min_two max_three min_three max_four min_four
set_option linter.unusedVariables false
set_option linter.unusedSimpArgs false
end Go.Proofs.Yteeakklnlcjgbaa.P

end
section

namespace Go.Proofs.Yteeakklnlcjgbaa.P
open Go.RowKit Go.Proofs.YteeakklnlcjgbaaW.PrintWords Go.Proofs.YteeakklnlcjgbaaW.PrintLast Go.Proofs.YteeakklnlcjgbaaW.PrintMore
attribute [local go_sem] max2_int min2_int max_two min_two max_three min_three max_four min_four
set_option linter.unusedVariables false
set_option linter.unusedSimpArgs false
end Go.Proofs.Yteeakklnlcjgbaa.P

end
section

namespace Go.Proofs.Yteeakklnlcjgbaa.P
open Go.RowKit Go.Proofs.YteeakklnlcjgbaaW.PrintWords Go.Proofs.YteeakklnlcjgbaaW.PrintLast Go.Proofs.YteeakklnlcjgbaaW.PrintMore
attribute [local go_sem] max2_int min2_int max_two min_two max_three min_three max_four min_four
set_option linter.unusedVariables false
set_option linter.unusedSimpArgs false
end Go.Proofs.Yteeakklnlcjgbaa.P

end
section

namespace Go.Proofs.Yteeakklnlcjgbaa.P
open Go.RowKit Go.Proofs.YteeakklnlcjgbaaW.PrintWords Go.Proofs.YteeakklnlcjgbaaW.PrintLast Go.Proofs.YteeakklnlcjgbaaW.PrintMore
attribute [local go_sem] max2_int min2_int max_two min_two max_three min_three max_four min_four
set_option linter.unusedVariables false
set_option linter.unusedSimpArgs false
end Go.Proofs.Yteeakklnlcjgbaa.P

end
section

namespace Go.Proofs.Yteeakklnlcjgbaa.P
open Go.RowKit Go.Proofs.YteeakklnlcjgbaaW.PrintWords Go.Proofs.YteeakklnlcjgbaaW.PrintLast Go.Proofs.YteeakklnlcjgbaaW.PrintMore
attribute [local go_sem] max2_int min2_int max_two min_two max_three min_three max_four min_four
set_option linter.unusedVariables false
set_option linter.unusedSimpArgs false
end Go.Proofs.Yteeakklnlcjgbaa.P

end
section

namespace Go.Proofs.Yteeakklnlcjgbaa.P
open Go.RowKit Go.Proofs.YteeakklnlcjgbaaW.PrintWords Go.Proofs.YteeakklnlcjgbaaW.PrintLast Go.Proofs.YteeakklnlcjgbaaW.PrintMore
attribute [local go_sem] max2_int min2_int max_two min_two max_three min_three max_four min_four
set_option linter.unusedVariables false
set_option linter.unusedSimpArgs false
end Go.Proofs.Yteeakklnlcjgbaa.P

end
section

namespace Go.Proofs.Yteeakklnlcjgbaa.P
open Go.RowKit Go.Proofs.YteeakklnlcjgbaaW.PrintWords Go.Proofs.YteeakklnlcjgbaaW.PrintLast Go.Proofs.YteeakklnlcjgbaaW.PrintMore
attribute [local go_sem] max2_int min2_int max_two min_two max_three min_three max_four min_four
set_option linter.unusedVariables false
set_option linter.unusedSimpArgs false
end Go.Proofs.Yteeakklnlcjgbaa.P

end
section

namespace Go.Proofs.Yteeakklnlcjgbaa.P
open Go.RowKit Go.Proofs.YteeakklnlcjgbaaW.PrintWords Go.Proofs.YteeakklnlcjgbaaW.PrintLast Go.Proofs.YteeakklnlcjgbaaW.PrintMore
attribute [local go_sem] max2_int min2_int max_two min_two max_three min_three max_four min_four
set_option linter.unusedVariables false
set_option linter.unusedSimpArgs false
end Go.Proofs.Yteeakklnlcjgbaa.P

end
section

namespace Go.Proofs.Yteeakklnlcjgbaa.P
open Go.RowKit Go.Proofs.YteeakklnlcjgbaaW.PrintWords Go.Proofs.YteeakklnlcjgbaaW.PrintLast Go.Proofs.YteeakklnlcjgbaaW.PrintMore
attribute [local go_sem] max2_int min2_int max_two min_two max_three min_three max_four min_four
set_option linter.unusedVariables false
set_option linter.unusedSimpArgs false
end Go.Proofs.Yteeakklnlcjgbaa.P

end
section

namespace Go.Proofs.Yteeakklnlcjgbaa.P
open Go.RowKit Go.Proofs.YteeakklnlcjgbaaW.PrintWords Go.Proofs.YteeakklnlcjgbaaW.PrintLast Go.Proofs.YteeakklnlcjgbaaW.PrintMore
attribute [local go_sem] max2_int min2_int max_two min_two max_three min_three max_four min_four
set_option linter.unusedVariables false
set_option linter.unusedSimpArgs false
end Go.Proofs.Yteeakklnlcjgbaa.P

end
section

namespace Go.Proofs.Yteeakklnlcjgbaa.Kit
open Go Go.RowKit Go.Proofs.YteeakklnlcjgbaaW.PrintWords Go.Proofs.Yteeakklnlcjgbaa.P
set_option linter.unusedVariables false
def valOk (n : Nat) (v : S46) : Bool := !v.f0 || (decide (0 ≤ v.f1) && decide (v.f1 ≤ (n : Int)))
def heapOk (objs : List S48) (roots : List S46) : Bool := roots.all (valOk objs.length) && objs.all fun o => o.f1.all (valOk objs.length)
theorem spec_val (v : S46) (n : Nat) : spec_l12Val.f v.f0 v.f1 (n : Int) = some (valOk n v) := by
  obtain ⟨b, x⟩ := v
  unfold spec_l12Val.f valOk spec_l6In.f
  cases b <;> by_cases h1 : 0 ≤ x <;> simp [h1]
theorem impl_val (v : S46) (n : Nat) : impl_leadsOk.f v.f0 v.f1 (n : Int) = some (valOk n v) := by
  obtain ⟨b, x⟩ := v
  unfold impl_leadsOk.f valOk
  cases b <;> by_cases h1 : 0 ≤ x <;> simp [h1]
theorem rd46 {xs : List S46} {i : Nat} (h : i < xs.length) : rd_T46 xs (i : Int) = xs[i] := getD_at h _
theorem rd48 {xs : List S48} {i : Nat} (h : i < xs.length) : rd_T48 xs (i : Int) = xs[i] := getD_at h _
def Small (objs : List S48) : Prop := objs.length ≤ 1073741824 ∧ ∀ o ∈ objs, o.f1.length ≤ 1073741824
theorem spec_heap {objs : List S48} {roots : List S46} (ho : Small objs) (hr : roots.length ≤ 1073741824) : Evp (fun k => spec_HeapOk.f k objs roots) (fun r => r = heapOk objs roots) := by
  have h1 : ∀ i, i ≤ objs.length → Evp (fun k => spec_HeapOk.l1 k objs (i : Int)) (fun r => r = (objs.drop i).all fun o => o.f1.all (valOk objs.length)) := by
    refine Evp.for_ ?_ (fun i hi ih => ?_)
    · refine Evp.step (f := fun k => _) (fun k => by rw [spec_HeapOk.l1]) (Evp.no (by omega) (Evp.pure _ (by simp)))
    · refine Evp.step (f := fun k => _) (fun k => by rw [spec_HeapOk.l1]) (Evp.yes (by omega) ?_)
      have hv : objs[i].f1.length ≤ 1073741824 := ho.2 _ (List.getElem_mem hi)
      have ho1 := ho.1
      have h2 : ∀ j, j ≤ objs[i].f1.length → Evp (fun k => spec_HeapOk.l2 k objs (i : Int) (j : Int)) (fun r => r = ((objs[i].f1.drop j).all (valOk objs.length) && (objs.drop (i + 1)).all fun o => o.f1.all (valOk objs.length))) := by
        refine Evp.for_ ?_ (fun j hj ihj => ?_)
        · refine Evp.step (f := fun k => _) (fun k => by rw [spec_HeapOk.l2, rd48 hi]) (Evp.yes (by omega) (Evp.yes (by omega) (Evp.no (by omega) ?_)))
          rw [w64' hi (by omega)]
          simpa using ih
        · refine Evp.step (f := fun k => _) (fun k => by rw [spec_HeapOk.l2, rd48 hi, rd46 hj, spec_val, Option.bind_some]) (Evp.yes (by omega) (Evp.yes (by omega) (Evp.yes (by omega) (Evp.yes (by omega) ?_))))
          rw [w64' hj (by omega), drop_at hj, List.all_cons]
          refine Evp.ite (fun h => ?_) (fun h => Evp.pure _ (by simp [h]))
          simpa [h] using ihj
      rw [drop_at hi, List.all_cons]
      simpa using h2 0 (Nat.zero_le _)
  have h0 : ∀ i, i ≤ roots.length → Evp (fun k => spec_HeapOk.l0 k objs roots (i : Int)) (fun r => r = ((roots.drop i).all (valOk objs.length) && objs.all fun o => o.f1.all (valOk objs.length))) := by
    refine Evp.for_ ?_ (fun i hi ih => ?_)
    · refine Evp.step (f := fun k => _) (fun k => by rw [spec_HeapOk.l0]) (Evp.no (by omega) ?_)
      simpa using h1 0 (Nat.zero_le _)
    · refine Evp.step (f := fun k => _) (fun k => by rw [spec_HeapOk.l0, rd46 hi, spec_val, Option.bind_some]) (Evp.yes (by omega) (Evp.yes (by omega) ?_))
      rw [w64' hi (by omega), drop_at hi, List.all_cons]
      refine Evp.ite (fun h => ?_) (fun h => Evp.pure _ (by simp [h]))
      simpa [h] using ih
  exact h0 0 (Nat.zero_le _)
theorem impl_heap {objs : List S48} {roots : List S46} (ho : Small objs) (hr : roots.length ≤ 1073741824) : Evp (fun k => impl_HeapOk.f k objs roots) (fun r => r = heapOk objs roots) := by
  have h1 : ∀ i, i ≤ objs.length → Evp (fun k => impl_HeapOk.l1 k objs objs (objs.length : Int) (i : Int)) (fun r => r = (objs.drop i).all fun o => o.f1.all (valOk objs.length)) := by
    refine Evp.for_ ?_ (fun i hi ih => ?_)
    · refine Evp.step (f := fun k => _) (fun k => by rw [impl_HeapOk.l1]) (Evp.no (by omega) (Evp.pure _ (by simp)))
    · refine Evp.step (f := fun k => _) (fun k => by rw [impl_HeapOk.l1, rd48 hi]) (Evp.yes (by omega) (Evp.yes (by omega) (Evp.yes (by omega) ?_)))
      have hv : objs[i].f1.length ≤ 1073741824 := ho.2 _ (List.getElem_mem hi)
      have ho1 := ho.1
      have h2 : ∀ j, j ≤ objs[i].f1.length → Evp (fun k => impl_HeapOk.l2 k objs objs (objs.length : Int) (i : Int) objs[i].f1 (objs[i].f1.length : Int) (j : Int)) (fun r => r = ((objs[i].f1.drop j).all (valOk objs.length) && (objs.drop (i + 1)).all fun o => o.f1.all (valOk objs.length))) := by
        refine Evp.for_ ?_ (fun j hj ihj => ?_)
        · refine Evp.step (f := fun k => _) (fun k => by rw [impl_HeapOk.l2]) (Evp.no (by omega) ?_)
          rw [w64' hi (by omega)]
          simpa using ih
        · refine Evp.step (f := fun k => _) (fun k => by rw [impl_HeapOk.l2, rd46 hj, impl_val, Option.bind_some]) (Evp.yes (by omega) (Evp.yes (by omega) (Evp.yes (by omega) ?_)))
          rw [w64' hj (by omega), drop_at hj, List.all_cons]
          refine Evp.ite (fun h => ?_) (fun h => Evp.pure _ (by simp [h]))
          simpa [h] using ihj
      rw [drop_at hi, List.all_cons]
      simpa using h2 0 (Nat.zero_le _)
  have h0 : ∀ i, i ≤ roots.length → Evp (fun k => impl_HeapOk.l0 k objs roots (roots.length : Int) (i : Int)) (fun r => r = ((roots.drop i).all (valOk objs.length) && objs.all fun o => o.f1.all (valOk objs.length))) := by
    refine Evp.for_ ?_ (fun i hi ih => ?_)
    · refine Evp.step (f := fun k => _) (fun k => by rw [impl_HeapOk.l0]) (Evp.no (by omega) ?_)
      simpa using h1 0 (Nat.zero_le _)
    · refine Evp.step (f := fun k => _) (fun k => by rw [impl_HeapOk.l0, rd46 hi, impl_val, Option.bind_some]) (Evp.yes (by omega) (Evp.yes (by omega) (Evp.yes (by omega) ?_)))
      rw [w64' hi (by omega), drop_at hi, List.all_cons]
      refine Evp.ite (fun h => ?_) (fun h => Evp.pure _ (by simp [h]))
      simpa [h] using ih
  exact h0 0 (Nat.zero_le _)
end Go.Proofs.Yteeakklnlcjgbaa.Kit

end
section

namespace Go.Proofs.Yteeakklnlcjgbaa.Kit
open Go Go.RowKit Go.Proofs.YteeakklnlcjgbaaW.PrintWords Go.Proofs.Yteeakklnlcjgbaa.P
set_option linter.unusedVariables false
def comeV (o : List Int) (v : S46) : List Int := if v.f0 = true ∧ v.f1 ≠ 0 ∧ v.f1 ∉ o then o ++ [v.f1] else o
def Inv (n : Nat) (o : List Int) : Prop := o.Nodup ∧ ∀ x ∈ o, 1 ≤ x ∧ x ≤ (n : Int)
theorem nodup_le : ∀ (n : Nat) (o : List Int), o.Nodup → (∀ x ∈ o, 1 ≤ x ∧ x ≤ (n : Int)) → o.length ≤ n
  | 0, [], _, _ => Nat.le_refl _
  | 0, a :: o, _, h => by have := h a (by simp); omega
  | n + 1, o, hd, h => by
    by_cases hm : ((n + 1 : Nat) : Int) ∈ o
    · have h1 := nodup_le n (o.erase ((n + 1 : Nat) : Int)) (hd.erase _) (fun x hx => by
        obtain ⟨h2, h3⟩ := hd.mem_erase_iff.1 hx
        have := h x h3
        omega)
      rw [List.length_erase_of_mem hm] at h1
      omega
    · have := nodup_le n o hd (fun x hx => by
        have h2 := h x hx
        have : x ≠ ((n + 1 : Nat) : Int) := fun e => hm (e ▸ hx)
        omega)
      omega
theorem Inv.len {n : Nat} {o : List Int} (h : Inv n o) : o.length ≤ n := nodup_le n o h.1 h.2
theorem Inv.nil (n : Nat) : Inv n [] := ⟨List.nodup_nil, by simp⟩
theorem valOk_iff {n : Nat} {v : S46} : valOk n v = true ↔ (v.f0 = true → 0 ≤ v.f1 ∧ v.f1 ≤ (n : Int)) := by
  unfold valOk
  cases v.f0 <;> simp
theorem Inv.come {n : Nat} {o : List Int} {v : S46} (h : Inv n o) (hv : valOk n v = true) : Inv n (comeV o v) := by
  unfold comeV
  split
  · rename_i hc
    obtain ⟨h1, h2, h3⟩ := hc
    have h4 := valOk_iff.1 hv h1
    refine ⟨?_, ?_⟩
    · rw [List.nodup_append]
      refine ⟨h.1, by simp, ?_⟩
      intro a ha b hb e
      simp at hb
      subst hb
      subst e
      exact h3 ha
    · intro x hx
      rcases List.mem_append.1 hx with hx | hx
      · exact h.2 x hx
      · simp at hx
        subst hx
        omega
  · exact h
theorem Inv.fold {n : Nat} : ∀ {vs : List S46} {o : List Int}, Inv n o → (∀ v ∈ vs, valOk n v = true) → Inv n (vs.foldl comeV o)
  | [], _, h, _ => h
  | v :: vs, o, h, hv => by
    show Inv n (vs.foldl comeV (comeV o v))
    exact Inv.fold (h.come (hv v (by simp))) (fun u hu => hv u (by simp [hu]))
theorem step_ok {n : Nat} {o : List Int} {v : S46} (h : Inv n o) (hv : valOk n v = true) (hn : n ≤ 1073741824) : g_step (n + 1) o v = some (comeV o v) := by
  have hl := h.len
  unfold g_step comeV
  by_cases h1 : v.f0 = true
  · have h2 := valOk_iff.1 hv h1
    rw [if_pos h1]
    by_cases h3 : v.f1 = 0
    · simp [h3]
    · rw [if_neg h3, if_pos (by omega)]
      by_cases h4 : v.f1 ∈ o
      · simp [h4]
      · rw [if_neg h4, if_pos (by omega), if_pos ⟨h1, h3, h4⟩]
  · rw [if_neg h1, if_neg (fun h => h1 h.1)]
theorem comes_ok {n : Nat} {vs : List S46} (hn : n ≤ 1073741824) (hl : vs.length ≤ 1073741824) (hv : ∀ v ∈ vs, valOk n v = true) : ∀ i, i ≤ vs.length → ∀ o : List Int, Inv n o → Evp (fun k => g_comes k (n + 1) vs (i : Int) o) (fun r => r = (vs.drop i).foldl comeV o) := by
  refine Evp.fors (g := fun i o k => g_comes k (n + 1) vs (i : Int) o) (I := fun _ o => Inv n o) (R := fun i o r => r = (vs.drop i).foldl comeV o) (fun o ho => ?_) (fun i hi ih o ho => ?_)
  · exact Evp.step (f := fun k => _) (fun k => by rw [g_comes]) (Evp.no (by omega) (Evp.pure _ (by simp)))
  · have hvi := hv _ (List.getElem_mem hi)
    refine Evp.step (f := fun k => _) (fun k => by rw [g_comes, rd46 hi, step_ok ho hvi hn, Option.bind_some]) (Evp.yes (by omega) (Evp.yes (by omega) ?_))
    rw [w64' hi (by omega), drop_at hi, List.foldl_cons]
    exact ih _ (ho.come hvi)
def valsAt (objs : List S48) (x : Int) : List S46 := (objs.getD (x - 1).toNat z48).f1
def walkP (objs : List S48) : Nat → Nat → List Int → List Int
  | 0, _, o => o
  | d + 1, i, o => if h : i < o.length then walkP objs d (i + 1) ((valsAt objs o[i]).foldl comeV o) else o
structure Fine (objs : List S48) : Prop where
  n : objs.length ≤ 1073741824
  l : ∀ o ∈ objs, o.f1.length ≤ 1073741824
  v : ∀ o ∈ objs, ∀ v ∈ o.f1, valOk objs.length v = true
theorem valsAt_mem {objs : List S48} {x : Int} (h0 : 1 ≤ x) (h1 : x ≤ (objs.length : Int)) : ∃ h : (x - 1).toNat < objs.length, valsAt objs x = objs[(x - 1).toNat].f1 := by
  have h : (x - 1).toNat < objs.length := by omega
  exact ⟨h, by rw [valsAt, getD_at h]⟩
theorem Fine.vals {objs : List S48} (h : Fine objs) {x : Int} (h0 : 1 ≤ x) (h1 : x ≤ (objs.length : Int)) : (valsAt objs x).length ≤ 1073741824 ∧ ∀ v ∈ valsAt objs x, valOk objs.length v = true := by
  obtain ⟨hlt, e⟩ := valsAt_mem h0 h1
  rw [e]
  exact ⟨h.l _ (List.getElem_mem hlt), h.v _ (List.getElem_mem hlt)⟩
theorem rd_int {o : List Int} {i : Nat} (h : i < o.length) : rd o (i : Int) = o[i] := by simp [rd, h]
theorem rd_obj {objs : List S48} {x : Int} (h0 : 1 ≤ x) (h1 : x ≤ (objs.length : Int)) : (rd_T48 objs (x - 1)).f1 = valsAt objs x := rfl
theorem walk_ok {objs : List S48} (hf : Fine objs) : ∀ d i (o : List Int), Inv objs.length o → objs.length + 1 ≤ i + d → Evp (fun k => g_walk k objs (i : Int) o) (fun r => r = walkP objs d i o)
  | 0, i, o, ho, hd => by
    have := ho.len
    refine Evp.step (f := fun k => _) (fun k => by rw [g_walk]) (Evp.no (by omega) (Evp.pure o rfl))
  | d + 1, i, o, ho, hd => by
    have hn := hf.n
    by_cases hi : i < o.length
    · have hx := ho.2 _ (List.getElem_mem hi)
      have hw : wrap64 (o[i] - 1) = o[i] - 1 := w64 (by omega) (by omega)
      have hlen := ho.len
      have hv := hf.vals hx.1 hx.2
      refine Evp.step (f := fun k => _) (fun k => by rw [g_walk, rd_int hi, hw, rd_obj hx.1 hx.2]) (Evp.yes (by omega) (Evp.yes (by omega) ?_))
      refine Evp.bind (f := fun k o' => g_walk k objs (wrap64 ((i : Int) + 1)) o') (comes_ok hn hv.1 hv.2 0 (Nat.zero_le _) o ho) (fun o' e => ?_)
      subst e
      rw [w64' hi (by omega), walkP, dif_pos hi]
      exact walk_ok hf d (i + 1) _ (ho.fold (by simpa using hv.2)) (by omega)
    · refine Evp.step (f := fun k => _) (fun k => by rw [g_walk]) (Evp.no (by omega) (Evp.pure _ ?_))
      rw [walkP, dif_neg hi]
def Cov (o : List Int) (v : S46) : Prop := v.f0 = true → v.f1 = 0 ∨ v.f1 ∈ o
theorem come_pre (o : List Int) (v : S46) : o <+: comeV o v := by
  unfold comeV
  split
  · exact List.prefix_append _ _
  · exact List.prefix_refl _
theorem come_cov (o : List Int) (v : S46) : Cov (comeV o v) v := by
  intro h
  unfold comeV
  by_cases h0 : v.f1 = 0
  · exact .inl h0
  · right
    by_cases hm : v.f1 ∈ o
    · simp [hm]
    · rw [if_pos ⟨h, h0, hm⟩]
      simp
theorem Cov.pre {o o' : List Int} {v : S46} (h : Cov o v) (hp : o <+: o') : Cov o' v := fun hf => (h hf).imp id (fun hm => hp.subset hm)
theorem fold_pre : ∀ (vs : List S46) (o : List Int), o <+: vs.foldl comeV o
  | [], o => List.prefix_refl _
  | v :: vs, o => (come_pre o v).trans (fold_pre vs _)
theorem fold_cov : ∀ (vs : List S46) (o : List Int), ∀ v ∈ vs, Cov (vs.foldl comeV o) v
  | [], _, _, h => by simp at h
  | u :: vs, o, v, h => by
    rcases List.mem_cons.1 h with rfl | h
    · exact (come_cov o _).pre (fold_pre vs _)
    · exact fold_cov vs _ v h
theorem walk_pre (objs : List S48) : ∀ d i o, o <+: walkP objs d i o
  | 0, _, o => List.prefix_refl _
  | d + 1, i, o => by
    rw [walkP]
    split
    · exact (fold_pre _ _).trans (walk_pre objs d (i + 1) _)
    · exact List.prefix_refl _
theorem walk_inv {objs : List S48} (hf : Fine objs) : ∀ d i (o : List Int), Inv objs.length o → Inv objs.length (walkP objs d i o)
  | 0, _, _, h => h
  | d + 1, i, o, h => by
    rw [walkP]
    split
    · rename_i hi
      have hx := h.2 _ (List.getElem_mem hi)
      exact walk_inv hf d (i + 1) _ (h.fold (hf.vals hx.1 hx.2).2)
    · exact h
theorem walk_cov {objs : List S48} (hf : Fine objs) : ∀ d i (o : List Int), Inv objs.length o → objs.length + 1 ≤ i + d → (∀ j (h : j < o.length), j < i → ∀ v ∈ valsAt objs o[j], Cov o v) → ∀ x ∈ walkP objs d i o, ∀ v ∈ valsAt objs x, Cov (walkP objs d i o) v
  | 0, i, o, ho, hd, hc => by
    intro x hx v hv
    obtain ⟨j, hj, rfl⟩ := List.getElem_of_mem hx
    exact hc j hj (by have := ho.len; simp only [walkP] at hj; omega) v hv
  | d + 1, i, o, ho, hd, hc => by
    rw [walkP]
    split
    · rename_i hi
      have hx := ho.2 _ (List.getElem_mem hi)
      refine walk_cov hf d (i + 1) _ (ho.fold (hf.vals hx.1 hx.2).2) (by omega) (fun j hj hji v hv => ?_)
      have hjo : j < o.length := by omega
      have e : ((valsAt objs o[i]).foldl comeV o)[j] = o[j] := (fold_pre _ _).getElem hjo |>.symm
      rw [e] at hv
      by_cases hj2 : j = i
      · subst hj2
        exact fold_cov _ _ v hv
      · exact (hc j hjo (by omega) v hv).pre (fold_pre _ _)
    · rename_i hi
      intro x hx v hv
      obtain ⟨j, hj, rfl⟩ := List.getElem_of_mem hx
      exact hc j hj (by omega) v hv
end Go.Proofs.Yteeakklnlcjgbaa.Kit

end
section

namespace Go.Proofs.Yteeakklnlcjgbaa.Kit
open Go Go.RowKit Go.Proofs.YteeakklnlcjgbaaW.PrintWords Go.Proofs.Yteeakklnlcjgbaa.P
set_option linter.unusedVariables false
def ordP (objs : List S48) (roots : List S46) : List Int := walkP objs (objs.length + 1) 0 (roots.foldl comeV [])
def mv (o : List Int) (v : S46) : S46 := if v.f0 = true then ⟨true, g_num o v.f1⟩ else v
def objP (objs : List S48) (o : List Int) (x : Int) : S48 := ⟨(objs.getD (x - 1).toNat z48).f0, (valsAt objs x).map (mv o)⟩
def graphP (objs : List S48) (roots : List S46) : List S48 × List S46 := ((ordP objs roots).map (objP objs (ordP objs roots)), roots.map (mv (ordP objs roots)))
def HG (objs : List S48) (roots : List S46) : List S48 × List S46 := if heapOk objs roots = true then graphP objs roots else ([], [])
theorem heapOk_iff {objs : List S48} {roots : List S46} : heapOk objs roots = true ↔ (∀ v ∈ roots, valOk objs.length v = true) ∧ ∀ o ∈ objs, ∀ v ∈ o.f1, valOk objs.length v = true := by
  unfold heapOk
  simp [List.all_eq_true]
theorem Fine.of {objs : List S48} {roots : List S46} (hs : Small objs) (h : heapOk objs roots = true) : Fine objs := ⟨hs.1, hs.2, (heapOk_iff.1 h).2⟩
theorem toL_at {n : Nat} {o : List Int} {m : Int} (h0 : 0 ≤ m) (h1 : m ≤ (n : Int)) : rd (g_toL (n + 1) o) m = g_num o m := by
  have h2 : ((m.toNat : Nat) : Int) = m := Int.toNat_of_nonneg h0
  have h3 : m.toNat < n + 1 := by omega
  simp [rd, g_toL, h3, h2]
theorem numL_at {n : Nat} {o : List Int} {m : Int} (h0 : 1 ≤ m) (h1 : m ≤ (n : Int)) : rd (g_numL n o) (m - 1) = g_num o m := by
  obtain ⟨j, rfl⟩ : ∃ j : Nat, m = (j : Int) + 1 := ⟨(m - 1).toNat, by omega⟩
  rw [show (j : Int) + 1 - 1 = (j : Int) by omega]
  have h3 : j < n := by omega
  simp [rd, g_numL, h3]
theorem take_snoc {α β : Type} (f : α → β) (l : List α) {i : Nat} (h : i < l.length) : (l.take i).map f ++ [f l[i]] = (l.take (i + 1)).map f := by
  rw [List.take_succ_eq_append_getElem h, List.map_append]; rfl
theorem move_ok {n : Nat} {o : List Int} {vs : List S46} (hn : n ≤ 1073741824) (hl : vs.length ≤ 1073741824) (hv : ∀ v ∈ vs, valOk n v = true) : Evp (fun k => impl_moveVals.f k vs (g_toL (n + 1) o)) (fun r => r = vs.map (mv o)) := by
  unfold impl_moveVals.f
  have key : ∀ i, i ≤ vs.length → ∀ s : List S46, s = (vs.take i).map (mv o) → Evp (fun k => impl_moveVals.l0 k (g_toL (n + 1) o) s vs (vs.length : Int) (i : Int)) (fun r => r = vs.map (mv o)) := by
    refine Evp.fors (g := fun i s k => impl_moveVals.l0 k (g_toL (n + 1) o) s vs (vs.length : Int) (i : Int)) (I := fun i s => s = (vs.take i).map (mv o)) (R := fun _ _ r => r = vs.map (mv o)) (fun s hs => ?_) (fun i hi ih s hs => ?_)
    · refine Evp.step (f := fun k => _) (fun k => by rw [impl_moveVals.l0]) (Evp.no (by omega) (Evp.pure s ?_))
      rw [hs, List.take_length]
    · have hvi := valOk_iff.1 (hv _ (List.getElem_mem hi))
      have hsl : s.length ≤ vs.length := by rw [hs]; simp; omega
      refine Evp.step (f := fun k => _) (fun k => by rw [impl_moveVals.l0, rd46 hi, length_toL, w64' hi (by omega)]) (Evp.yes (by omega) (Evp.yes (by omega) (Evp.yes (by omega) (Evp.ite (fun hb => ?_) (fun hb => ?_)))))
      · have h2 := hvi hb
        refine Evp.yes (by omega) (Evp.yes (by omega) (Evp.yes (by omega) ?_))
        rw [toL_at h2.1 h2.2]
        refine ih _ ?_
        rw [← take_snoc _ _ hi, hs]
        congr 2
        rw [mv, if_pos hb]
        rw [hb]
      · refine Evp.yes (by omega) (ih _ ?_)
        rw [← take_snoc _ _ hi, hs]
        congr 2
        rw [mv, if_neg hb]
  exact key 0 (Nat.zero_le _) [] (by simp)
theorem mv_ok {n : Nat} {o : List Int} {v : S46} (h0 : (0 : Int) ∉ o) (hn : n ≤ 1073741824) (hv : valOk n v = true) : l12_mv (g_numL n o) v = some (mv o v) := by
  unfold l12_mv mv
  by_cases hb : v.f0 = true
  · have h2 := valOk_iff.1 hv hb
    rw [if_pos hb, if_pos hb]
    by_cases hp : 0 < v.f1
    · have hw : wrap64 (v.f1 - 1) = v.f1 - 1 := w64 (by omega) (by omega)
      rw [if_pos hp, hw, length_numL, if_pos (by omega), numL_at (by omega) h2.2]
    · have : v.f1 = 0 := by omega
      rw [if_neg hp]
      obtain ⟨b, m⟩ := v
      simp only at hb this
      subst hb
      subst this
      simp [g_num, h0]
  · rw [if_neg hb, if_neg hb]
theorem all_ok {n : Nat} {o : List Int} {vs : List S46} (h0 : (0 : Int) ∉ o) (hn : n ≤ 1073741824) (hl : vs.length ≤ 1073741824) (hv : ∀ v ∈ vs, valOk n v = true) : Evp (fun k => l12_all.f k (g_numL n o) vs) (fun r => r = vs.map (mv o)) := by
  unfold l12_all.f
  have key : ∀ i, i ≤ vs.length → ∀ s : List S46, s = (vs.take i).map (mv o) → Evp (fun k => l12_all.l0 k (g_numL n o) vs (i : Int) s) (fun r => r = vs.map (mv o)) := by
    refine Evp.fors (g := fun i s k => l12_all.l0 k (g_numL n o) vs (i : Int) s) (I := fun i s => s = (vs.take i).map (mv o)) (R := fun _ _ r => r = vs.map (mv o)) (fun s hs => ?_) (fun i hi ih s hs => ?_)
    · refine Evp.step (f := fun k => _) (fun k => by rw [l12_all.l0]) (Evp.no (by omega) (Evp.pure s ?_))
      rw [hs, List.take_length]
    · have hsl : s.length ≤ vs.length := by rw [hs]; simp; omega
      refine Evp.step (f := fun k => _) (fun k => by rw [l12_all.l0, rd46 hi, mv_ok h0 hn (hv _ (List.getElem_mem hi)), Option.bind_some, w64' hi (by omega)]) (Evp.yes (by omega) (Evp.yes (by omega) (Evp.yes (by omega) ?_)))
      refine ih _ ?_
      rw [← take_snoc _ _ hi, hs]
  exact key 0 (Nat.zero_le _) [] (by simp)
theorem out_ok {objs : List S48} {o : List Int} (hf : Fine objs) (ho : Inv objs.length o) : Evp (fun k => g_out k objs (g_toL (objs.length + 1) o) o 0 []) (fun r => r = o.map (objP objs o)) := by
  have hn := hf.n
  have hlen := ho.len
  have key : ∀ i, i ≤ o.length → ∀ s : List S48, s = (o.take i).map (objP objs o) → Evp (fun k => g_out k objs (g_toL (objs.length + 1) o) o (i : Int) s) (fun r => r = o.map (objP objs o)) := by
    refine Evp.fors (g := fun i s k => g_out k objs (g_toL (objs.length + 1) o) o (i : Int) s) (I := fun i s => s = (o.take i).map (objP objs o)) (R := fun _ _ r => r = o.map (objP objs o)) (fun s hs => ?_) (fun i hi ih s hs => ?_)
    · refine Evp.step (f := fun k => _) (fun k => by rw [g_out]) (Evp.no (by omega) (Evp.pure s ?_))
      rw [hs, List.take_length]
    · have hx := ho.2 _ (List.getElem_mem hi)
      have hw : wrap64 (o[i] - 1) = o[i] - 1 := w64 (by omega) (by omega)
      have hv := hf.vals hx.1 hx.2
      have hsl : s.length ≤ o.length := by rw [hs]; simp; omega
      refine Evp.step (f := fun k => _) (fun k => by rw [g_out, rd_int hi, hw, rd_obj hx.1 hx.2, w64' hi (by omega)]) (Evp.yes (by omega) (Evp.yes (by omega) ?_))
      refine Evp.bind (f := fun k vs => if s.length < 4398046511104 then g_out k objs (g_toL (objs.length + 1) o) o ((i + 1 : Nat) : Int) (s ++ [(⟨(rd_T48 objs (o[i] - 1)).f0, vs⟩ : S48)]) else none) (move_ok hn hv.1 hv.2) (fun vs e => ?_)
      subst e
      refine Evp.yes (by omega) (ih _ ?_)
      rw [← take_snoc _ _ hi, hs]
      rfl
  exact key 0 (Nat.zero_le _) [] (by simp)
theorem out_ok' {objs : List S48} {o : List Int} (hf : Fine objs) (ho : Inv objs.length o) : Evp (fun k => l12_out k objs (g_numL objs.length o) o 0 []) (fun r => r = o.map (objP objs o)) := by
  have hn := hf.n
  have hlen := ho.len
  have h0 : (0 : Int) ∉ o := fun h => by have := ho.2 _ h; omega
  have key : ∀ i, i ≤ o.length → ∀ s : List S48, s = (o.take i).map (objP objs o) → Evp (fun k => l12_out k objs (g_numL objs.length o) o (i : Int) s) (fun r => r = o.map (objP objs o)) := by
    refine Evp.fors (g := fun i s k => l12_out k objs (g_numL objs.length o) o (i : Int) s) (I := fun i s => s = (o.take i).map (objP objs o)) (R := fun _ _ r => r = o.map (objP objs o)) (fun s hs => ?_) (fun i hi ih s hs => ?_)
    · refine Evp.step (f := fun k => _) (fun k => by rw [l12_out]) (Evp.no (by omega) (Evp.pure s ?_))
      rw [hs, List.take_length]
    · have hx := ho.2 _ (List.getElem_mem hi)
      have hw : wrap64 (o[i] - 1) = o[i] - 1 := w64 (by omega) (by omega)
      have hv := hf.vals hx.1 hx.2
      have hsl : s.length ≤ o.length := by rw [hs]; simp; omega
      refine Evp.step (f := fun k => _) (fun k => by rw [l12_out, rd_int hi, hw, rd_obj hx.1 hx.2, w64' hi (by omega)]) (Evp.yes (by omega) (Evp.yes (by omega) ?_))
      refine Evp.bind (f := fun k vs => if s.length < 4398046511104 then l12_out k objs (g_numL objs.length o) o ((i + 1 : Nat) : Int) (s ++ [(⟨(rd_T48 objs (o[i] - 1)).f0, vs⟩ : S48)]) else none) (all_ok h0 hn hv.1 hv.2) (fun vs e => ?_)
      subst e
      refine Evp.yes (by omega) (ih _ ?_)
      rw [← take_snoc _ _ hi, hs]
      rfl
  exact key 0 (Nat.zero_le _) [] (by simp)
theorem ord_inv {objs : List S48} {roots : List S46} (hf : Fine objs) (hr : ∀ v ∈ roots, valOk objs.length v = true) : Inv objs.length (ordP objs roots) := walk_inv hf _ _ _ ((Inv.nil _).fold hr)
theorem ord_ok {objs : List S48} {roots : List S46} (hf : Fine objs) (hl : roots.length ≤ 1073741824) (hr : ∀ v ∈ roots, valOk objs.length v = true) :
    Evp (fun k => (g_comes k (objs.length + 1) roots 0 []).bind fun o1 => g_walk k objs 0 o1) (fun r => r = ordP objs roots) := by
  refine Evp.bind (f := fun k o1 => g_walk k objs 0 o1) (comes_ok hf.n hl hr 0 (Nat.zero_le _) [] (Inv.nil _)) (fun o1 e => ?_)
  subst e
  exact walk_ok hf (objs.length + 1) 0 _ ((Inv.nil _).fold (by simpa using hr)) (by omega)
theorem impl_graph {objs : List S48} {roots : List S46} (hs : Small objs) (hl : roots.length ≤ 1073741824) : Evp (fun k => impl_HeapGraph.f k objs roots) (fun r => r = HG objs roots) := by
  unfold impl_HeapGraph.f
  refine Evp.bind (f := fun k ok => if ok = true then (if objs.length + 1 < 8796093022208 then ((g_comes k (objs.length + 1) roots 0 []).bind fun o1 => ((g_walk k objs 0 o1).bind fun o => ((g_out k objs (g_toL (objs.length + 1) o) o 0 []).bind fun g => ((impl_moveVals.f k roots (g_toL (objs.length + 1) o)).bind fun r => some (g, r))))) else none) else some ([], [])) (impl_heap hs hl) (fun ok e => ?_)
  subst e
  have hn := hs.1
  unfold HG
  refine Evp.ite (fun h => ?_) (fun h => Evp.pure _ (by rw [if_neg h]))
  rw [if_pos h]
  have hf := Fine.of hs h
  have hr := (heapOk_iff.1 h).1
  refine Evp.yes (by omega) ?_
  refine Evp.congr (f := fun k => ((g_comes k (objs.length + 1) roots 0 []).bind fun o1 => g_walk k objs 0 o1).bind fun o => ((g_out k objs (g_toL (objs.length + 1) o) o 0 []).bind fun g => ((impl_moveVals.f k roots (g_toL (objs.length + 1) o)).bind fun r => some (g, r)))) (fun k => by rw [Option.bind_assoc]) ?_
  refine Evp.bind (f := fun k o => ((g_out k objs (g_toL (objs.length + 1) o) o 0 []).bind fun g => ((impl_moveVals.f k roots (g_toL (objs.length + 1) o)).bind fun r => some (g, r)))) (ord_ok hf hl hr) (fun o e => ?_)
  subst e
  refine Evp.bind (f := fun k g => ((impl_moveVals.f k roots (g_toL (objs.length + 1) (ordP objs roots))).bind fun r => some (g, r))) (out_ok hf (ord_inv hf hr)) (fun g e => ?_)
  subst e
  refine Evp.bind (f := fun k r => some (_, r)) (move_ok hn hl hr) (fun r e => ?_)
  subst e
  exact Evp.pure _ rfl
theorem spec_graph {objs : List S48} {roots : List S46} (hs : Small objs) (hl : roots.length ≤ 1073741824) : Evp (fun k => spec_HeapGraph.f k objs roots) (fun r => r = HG objs roots) := by
  unfold spec_HeapGraph.f
  refine Evp.bind (f := fun k ok => if ok = true then ((spec_l12Graph.f k objs roots).bind fun b => (some (b.1, b.2))) else some ([], [])) (spec_heap hs hl) (fun ok e => ?_)
  subst e
  have hn := hs.1
  unfold HG
  refine Evp.ite (fun h => ?_) (fun h => Evp.pure _ (by rw [if_neg h]))
  rw [if_pos h]
  have hf := Fine.of hs h
  have hr := (heapOk_iff.1 h).1
  have h0 : (0 : Int) ∉ ordP objs roots := fun h => by have := (ord_inv hf hr).2 _ h; omega
  have key : Evp (fun k => spec_l12Graph.f k objs roots) (fun r => r = graphP objs roots) := by
    unfold spec_l12Graph.f
    refine Evp.yes (by omega) ?_
    refine Evp.congr (f := fun k => ((g_comes k (objs.length + 1) roots 0 []).bind fun o1 => g_walk k objs 0 o1).bind fun o => ((l12_out k objs (g_numL objs.length o) o 0 []).bind fun g => ((l12_all.f k (g_numL objs.length o) roots).bind fun r => some (g, r)))) (fun k => by rw [Option.bind_assoc]) ?_
    refine Evp.bind (f := fun k o => ((l12_out k objs (g_numL objs.length o) o 0 []).bind fun g => ((l12_all.f k (g_numL objs.length o) roots).bind fun r => some (g, r)))) (ord_ok hf hl hr) (fun o e => ?_)
    subst e
    refine Evp.bind (f := fun k g => ((l12_all.f k (g_numL objs.length (ordP objs roots)) roots).bind fun r => some (g, r))) (out_ok' hf (ord_inv hf hr)) (fun g e => ?_)
    subst e
    refine Evp.bind (f := fun k r => some (_, r)) (all_ok h0 hn hl hr) (fun r e => ?_)
    subst e
    exact Evp.pure _ rfl
  refine Evp.bind (f := fun k b => some (b.1, b.2)) key (fun b e => ?_)
  subst e
  exact Evp.pure _ rfl
end Go.Proofs.Yteeakklnlcjgbaa.Kit

end
section

namespace Go.Proofs.Yteeakklnlcjgbaa.Kit
open Go Go.RowKit Go.Proofs.YteeakklnlcjgbaaW.PrintWords Go.Proofs.Yteeakklnlcjgbaa.P
set_option linter.unusedVariables false
def rv (ρ : Int → Int) (v : S46) : S46 := if v.f0 = true then ⟨true, ρ v.f1⟩ else v
structure Ren (O : List Int) (ρ : Int → Int) : Prop where
  z : ρ 0 = 0
  nz : ∀ x ∈ O, ρ x ≠ 0
  inj : ∀ x ∈ O, ∀ y ∈ O, ρ x = ρ y → x = y
theorem Ren.mem {O o : List Int} {ρ : Int → Int} (h : Ren O ρ) (ho : ∀ x ∈ o, x ∈ O) {y : Int} (hy : y ∈ O) : ρ y ∈ o.map ρ ↔ y ∈ o := by
  constructor
  · intro hm
    obtain ⟨x, hx, e⟩ := List.mem_map.1 hm
    rw [← h.inj x (ho x hx) y hy e]
    exact hx
  · exact fun hm => List.mem_map_of_mem hm
theorem rv_come {O o : List Int} {ρ : Int → Int} (h : Ren O ρ) (ho : ∀ x ∈ o, x ∈ O) {v : S46} (hv : Cov O v) : comeV (o.map ρ) (rv ρ v) = (comeV o v).map ρ := by
  unfold comeV rv
  by_cases hb : v.f0 = true
  · rw [if_pos hb]
    rcases hv hb with h0 | hm
    · simp [h0, h.z]
    · have h1 : v.f1 ≠ 0 := by
        intro e
        have := h.nz _ hm
        rw [e, h.z] at this
        exact this rfl
      have h2 := h.nz _ hm
      have h3 := h.mem ho hm
      by_cases hx : v.f1 ∈ o
      · rw [if_neg (by simp [h3.2 hx]), if_neg (by simp [hx])]
      · rw [if_pos ⟨rfl, h2, fun e => hx (h3.1 e)⟩, if_pos ⟨hb, h1, hx⟩]
        simp
  · rw [if_neg hb]
    simp [hb]
theorem come_sub {O o : List Int} (ho : ∀ x ∈ o, x ∈ O) {v : S46} (hv : Cov O v) : ∀ x ∈ comeV o v, x ∈ O := by
  intro x hx
  unfold comeV at hx
  split at hx
  · rename_i hc
    rcases List.mem_append.1 hx with h | h
    · exact ho x h
    · simp at h
      subst h
      exact (hv hc.1).resolve_left hc.2.1
  · exact ho x hx
theorem rv_fold {O : List Int} {ρ : Int → Int} (h : Ren O ρ) : ∀ (vs : List S46) (o : List Int), (∀ x ∈ o, x ∈ O) → (∀ v ∈ vs, Cov O v) → (vs.map (rv ρ)).foldl comeV (o.map ρ) = (vs.foldl comeV o).map ρ ∧ ∀ x ∈ vs.foldl comeV o, x ∈ O
  | [], o, ho, _ => ⟨rfl, ho⟩
  | v :: vs, o, ho, hv => by
    have h1 := hv v (by simp)
    simp only [List.map_cons, List.foldl_cons]
    rw [rv_come h ho h1]
    exact rv_fold h vs _ (come_sub ho h1) (fun u hu => hv u (by simp [hu]))
theorem rv_walk {O : List Int} {ρ : Int → Int} (h : Ren O ρ) {objs objs' : List S48} (hc : ∀ x ∈ O, ∀ v ∈ valsAt objs x, Cov O v) (hv : ∀ x ∈ O, valsAt objs' (ρ x) = (valsAt objs x).map (rv ρ)) : ∀ d i (o : List Int), (∀ x ∈ o, x ∈ O) → walkP objs' d i (o.map ρ) = (walkP objs d i o).map ρ
  | 0, _, _, _ => rfl
  | d + 1, i, o, ho => by
    rw [walkP, walkP]
    by_cases hi : i < o.length
    · have hx := ho _ (List.getElem_mem hi)
      rw [dif_pos (by simpa using hi), dif_pos hi]
      simp only [List.getElem_map]
      rw [hv _ hx]
      have h2 := rv_fold h (valsAt objs o[i]) o ho (hc _ hx)
      rw [h2.1]
      exact rv_walk h hc hv d (i + 1) _ h2.2
    · rw [dif_neg (by simpa using hi), dif_neg hi]
theorem walk_more {objs : List S48} (hf : Fine objs) : ∀ d i e (o : List Int), Inv objs.length o → objs.length + 1 ≤ i + d → walkP objs (d + e) i o = walkP objs d i o
  | 0, i, e, o, ho, hd => by
    have := ho.len
    cases e with
    | zero => rfl
    | succ e =>
      rw [Nat.zero_add]
      simp only [walkP]
      rw [dif_neg (by omega)]
  | d + 1, i, e, o, ho, hd => by
    rw [show d + 1 + e = (d + e) + 1 by omega, walkP, walkP]
    split
    · rename_i hi
      have hx := ho.2 _ (List.getElem_mem hi)
      exact walk_more hf d (i + 1) e _ (ho.fold (hf.vals hx.1 hx.2).2) (by omega)
    · rfl
theorem ord_cov {objs : List S48} {roots : List S46} (hf : Fine objs) (hr : ∀ v ∈ roots, valOk objs.length v = true) : (∀ v ∈ roots, Cov (ordP objs roots) v) ∧ ∀ x ∈ ordP objs roots, ∀ v ∈ valsAt objs x, Cov (ordP objs roots) v :=
  ⟨fun v hv => (fold_cov roots [] v hv).pre (walk_pre objs _ 0 _), walk_cov hf _ 0 _ ((Inv.nil _).fold hr) (by omega) (fun j hj h => absurd h (by omega))⟩
theorem num_map {O : List Int} {ρ : Int → Int} (h : Ren O ρ) {y : Int} (hy : y = 0 ∨ y ∈ O) (h0 : (0 : Int) ∉ O) : g_num (O.map ρ) (ρ y) = g_num O y := by
  rcases hy with rfl | hy
  · rw [h.z]
    unfold g_num
    rw [if_neg h0, if_neg (by
      intro hm
      obtain ⟨x, hx, e⟩ := List.mem_map.1 hm
      exact h.nz x hx e)]
  · unfold g_num
    rw [if_pos hy, if_pos (List.mem_map_of_mem hy)]
    congr 2
    have key : ∀ (l : List Int), (∀ x ∈ l, x ∈ O) → (l.map ρ).idxOf (ρ y) = l.idxOf y := by
      intro l
      induction l with
      | nil => intro _; rfl
      | cons a l ih =>
        intro hl
        rw [List.map_cons, List.idxOf_cons, List.idxOf_cons]
        have ha : (ρ a == ρ y) = (a == y) := by
          by_cases e : a = y
          · rw [e, beq_self_eq_true, beq_self_eq_true]
          · have : ρ a ≠ ρ y := fun e' => e (h.inj a (hl a (by simp)) y hy e')
            rw [beq_eq_false_iff_ne.mpr this, beq_eq_false_iff_ne.mpr e]
        rw [ha, ih (fun x hx => hl x (by simp [hx]))]
    exact key O (fun _ hx => hx)
theorem graph_ren {objs objs' : List S48} {roots roots' : List S46} {ρ : Int → Int} (hf : Fine objs) (hr : ∀ v ∈ roots, valOk objs.length v = true) (hf' : Fine objs') (hr' : ∀ v ∈ roots', valOk objs'.length v = true)
    (h : Ren (ordP objs roots) ρ) (hroots : roots' = roots.map (rv ρ)) (hv : ∀ x ∈ ordP objs roots, valsAt objs' (ρ x) = (valsAt objs x).map (rv ρ)) (hc : ∀ x ∈ ordP objs roots, (objs'.getD (ρ x - 1).toNat z48).f0 = (objs.getD (x - 1).toNat z48).f0) :
    ordP objs' roots' = (ordP objs roots).map ρ ∧ graphP objs' roots' = graphP objs roots := by
  obtain ⟨hcr, hcv⟩ := ord_cov hf hr
  have h0 : (0 : Int) ∉ ordP objs roots := fun h => by have := (ord_inv hf hr).2 _ h; omega
  have hord : ordP objs' roots' = (ordP objs roots).map ρ := by
    have h1 := rv_fold h roots [] (by simp) hcr
    have h2 : roots'.foldl comeV [] = (roots.foldl comeV []).map ρ := by rw [hroots]; exact h1.1
    have hi := (Inv.nil objs.length).fold hr
    have hi' := (Inv.nil objs'.length).fold hr'
    unfold ordP
    rw [← walk_more hf (objs.length + 1) 0 (objs'.length + 1) _ hi (by omega), ← walk_more hf' (objs'.length + 1) 0 (objs.length + 1) _ hi' (by omega), h2, Nat.add_comm (objs'.length + 1)]
    exact rv_walk h hcv hv _ 0 _ h1.2
  refine ⟨hord, ?_⟩
  have hmv : ∀ v, Cov (ordP objs roots) v → mv (ordP objs' roots') (rv ρ v) = mv (ordP objs roots) v := by
    intro v hv
    unfold mv rv
    by_cases hb : v.f0 = true
    · rw [if_pos hb, if_pos hb, hord]
      simp only [if_true]
      rw [num_map h (hv hb) h0]
    · simp [hb]
  have hl : ∀ vs : List S46, (∀ v ∈ vs, Cov (ordP objs roots) v) → (vs.map (rv ρ)).map (mv (ordP objs' roots')) = vs.map (mv (ordP objs roots)) := by
    intro vs hvs
    rw [List.map_map]
    exact List.map_congr_left (fun v hv => hmv v (hvs v hv))
  unfold graphP
  congr 1
  · rw [hord, List.map_map]
    refine List.map_congr_left (fun x hx => ?_)
    show objP objs' _ (ρ x) = objP objs _ x
    unfold objP
    rw [hc x hx, hv x hx, ← hord, hl _ (hcv x hx)]
  · have h3 := hl _ hcr
    rw [← hroots] at h3
    exact h3
end Go.Proofs.Yteeakklnlcjgbaa.Kit

end
section

namespace Go.Proofs.Yteeakklnlcjgbaa.Kit
open Go Go.RowKit Go.Proofs.YteeakklnlcjgbaaW.PrintWords Go.Proofs.Yteeakklnlcjgbaa.P
set_option linter.unusedVariables false
theorem g_num_le (O : List Int) (y : Int) : 0 ≤ g_num O y ∧ g_num O y ≤ (O.length : Int) := by
  unfold g_num
  split
  · rename_i h
    have := List.idxOf_lt_length_of_mem h
    omega
  · omega
theorem mv_valOk (O : List Int) (v : S46) (n : Nat) (h : O.length ≤ n) : valOk n (mv O v) = true := by
  rw [valOk_iff]
  unfold mv
  split
  · intro _
    have := g_num_le O v.f1
    show 0 ≤ g_num O v.f1 ∧ g_num O v.f1 ≤ (n : Int)
    omega
  · intro h1; rename_i h2; exact absurd h1 h2
theorem objP_len {objs : List S48} (hf : Fine objs) {O : List Int} {x : Int} (h0 : 1 ≤ x) (h1 : x ≤ (objs.length : Int)) : (objP objs O x).f1.length ≤ 1073741824 := by
  have := (hf.vals h0 h1).1
  simpa [objP] using this
theorem graph_fine {objs : List S48} {roots : List S46} (hf : Fine objs) (hr : ∀ v ∈ roots, valOk objs.length v = true) : Fine (graphP objs roots).1 ∧ (∀ v ∈ (graphP objs roots).2, valOk (graphP objs roots).1.length v = true) ∧ (graphP objs roots).1.length ≤ objs.length := by
  have hi := ord_inv hf hr
  have hl := hi.len
  have hn := hf.n
  have e : (graphP objs roots).1.length = (ordP objs roots).length := by simp [graphP]
  refine ⟨⟨by omega, ?_, ?_⟩, ?_, by omega⟩
  · intro o ho
    obtain ⟨x, hx, rfl⟩ := List.mem_map.1 ho
    have := hi.2 x hx
    exact objP_len hf this.1 this.2
  · intro o ho v hv
    obtain ⟨x, hx, rfl⟩ := List.mem_map.1 ho
    obtain ⟨u, hu, rfl⟩ := List.mem_map.1 (show v ∈ (valsAt objs x).map (mv (ordP objs roots)) from hv)
    exact mv_valOk _ _ _ (by omega)
  · intro v hv
    obtain ⟨u, hu, rfl⟩ := List.mem_map.1 (show v ∈ roots.map (mv (ordP objs roots)) from hv)
    exact mv_valOk _ _ _ (by omega)
theorem num_idx {O : List Int} {y : Int} (hy : y ∈ O) : g_num O y = ((O.idxOf y : Nat) : Int) + 1 := by unfold g_num; rw [if_pos hy]
theorem num_ren {O : List Int} (h0 : (0 : Int) ∉ O) : Ren O (g_num O) := by
  refine ⟨by unfold g_num; rw [if_neg h0], fun x hx => by rw [num_idx hx]; omega, fun x hx y hy e => ?_⟩
  rw [num_idx hx, num_idx hy] at e
  have e2 : O.idxOf x = O.idxOf y := by omega
  have h1 := List.getElem_idxOf (List.idxOf_lt_length_of_mem hx)
  have h2 := List.getElem_idxOf (List.idxOf_lt_length_of_mem hy)
  rw [← h1, ← h2]
  congr 1
theorem graph_at {objs : List S48} {roots : List S46} {y : Int} (hy : y ∈ ordP objs roots) : (graphP objs roots).1.getD (g_num (ordP objs roots) y - 1).toNat z48 = objP objs (ordP objs roots) y := by
  have hlt := List.idxOf_lt_length_of_mem hy
  rw [num_idx hy, show (((ordP objs roots).idxOf y : Nat) : Int) + 1 - 1 = (((ordP objs roots).idxOf y : Nat) : Int) by omega, Int.toNat_natCast, getD_at (by simpa [graphP] using hlt)]
  simp only [graphP, List.getElem_map]
  rw [List.getElem_idxOf hlt]
theorem graph_twice {objs : List S48} {roots : List S46} (hf : Fine objs) (hr : ∀ v ∈ roots, valOk objs.length v = true) :
    ordP (graphP objs roots).1 (graphP objs roots).2 = (ordP objs roots).map (g_num (ordP objs roots)) ∧ graphP (graphP objs roots).1 (graphP objs roots).2 = graphP objs roots := by
  have h0 : (0 : Int) ∉ ordP objs roots := fun h => by have := (ord_inv hf hr).2 _ h; omega
  have hg := graph_fine hf hr
  refine graph_ren hf hr hg.1 hg.2.1 (num_ren h0) rfl (fun x hx => ?_) (fun x hx => ?_)
  · unfold valsAt
    rw [graph_at hx]
    rfl
  · rw [graph_at hx]
    rfl
theorem hg_nil : HG [] [] = ([], []) := by
  unfold HG
  split
  · rfl
  · rfl
theorem hg_parts {objs : List S48} {roots : List S46} (hs : Small objs) (hl : roots.length ≤ 1073741824) : Small (HG objs roots).1 ∧ (HG objs roots).2.length ≤ 1073741824 ∧ (HG objs roots).1.length ≤ objs.length ∧ heapOk (HG objs roots).1 (HG objs roots).2 = true ∧ HG (HG objs roots).1 (HG objs roots).2 = HG objs roots := by
  by_cases h : heapOk objs roots = true
  · have e : HG objs roots = graphP objs roots := by unfold HG; rw [if_pos h]
    have hf := Fine.of hs h
    have hr := (heapOk_iff.1 h).1
    have hg := graph_fine hf hr
    rw [e]
    have hk : heapOk (graphP objs roots).1 (graphP objs roots).2 = true := heapOk_iff.2 ⟨hg.2.1, hg.1.v⟩
    refine ⟨⟨hg.1.n, hg.1.l⟩, by simpa [graphP] using hl, hg.2.2, hk, ?_⟩
    unfold HG
    rw [if_pos hk]
    exact (graph_twice hf hr).2
  · have e : HG objs roots = ([], []) := by unfold HG; rw [if_neg h]
    rw [e]
    exact ⟨⟨by simp, by simp⟩, by simp, by simp, by rfl, hg_nil⟩
end Go.Proofs.Yteeakklnlcjgbaa.Kit

end
section

namespace Go.Proofs.Yteeakklnlcjgbaa.Kit
open Go Go.RowKit Go.Proofs.YteeakklnlcjgbaaW.PrintWords Go.Proofs.Yteeakklnlcjgbaa.P
set_option linter.unusedVariables false
def Bytes (bs : List Int) : Prop := bs.length ≤ 2000 ∧ ∀ x ∈ bs, 0 ≤ x ∧ x ≤ 255
theorem Bytes.rd {bs : List Int} (h : Bytes bs) (i : Int) : 0 ≤ rd bs i ∧ rd bs i ≤ 255 := by
  unfold Go.Proofs.YteeakklnlcjgbaaW.PrintWords.rd
  rw [List.getD_eq_getElem?_getD]
  by_cases hi : i.toNat < bs.length
  · rw [List.getElem?_eq_getElem hi]
    exact h.2 _ (List.getElem_mem hi)
  · rw [List.getElem?_eq_none (by omega)]
    simp
theorem open_evp {l : List Int} (h : ∀ x ∈ l, (Lit.int .u8 x).wf = true) : ∃ bs, spec_l6Open.f l = some (bs, 0) ∧ Bytes bs := by
  have hb : ∀ x ∈ l, 0 ≤ x ∧ x ≤ 255 := by
    intro x hx
    have := h x hx
    simp [Lit.wf, IntKind.min, IntKind.max, IntKind.signed, IntKind.bits] at this
    omega
  unfold spec_l6Open.f
  by_cases h1 : (l.length : Int) > 2000
  · rw [if_pos h1, if_pos (by omega)]
    exact ⟨_, rfl, by rw [List.length_take]; omega, fun x hx => hb x (List.mem_of_mem_take hx)⟩
  · rw [if_neg h1]
    exact ⟨_, rfl, by omega, hb⟩
theorem pick_evp {bs : List Int} (h : Bytes bs) {p n : Int} (h0 : 0 ≤ p) (h1 : p ≤ 1000000000) (hn : n ≤ 1000000000) :
    Evp (fun k => spec_l6Rd_pick.f k bs p n) (fun r => 0 ≤ r.1 ∧ (1 ≤ n → r.1 < n) ∧ r.2 = p + 1) := by
  have hp : wrap64 (p + 1) = p + 1 := w64 (by omega) (by omega)
  have hp1 : wrap64 (p + 1 - 1) = p := by rw [w64 (by omega) (by omega)]; omega
  have key : ∀ b : Bool, (b = false → 1 ≤ n ∧ bs.length ≠ 0) → Evp (fun k => spec_l6Rd_pick.j0 k n b bs (p + 1)) (fun r => 0 ≤ r.1 ∧ (1 ≤ n → r.1 < n) ∧ r.2 = p + 1) := by
    intro b hb
    refine Evp.step (f := fun k => _) (fun k => by rw [spec_l6Rd_pick.j0]) ?_
    rw [hp1]
    cases b with
    | true =>
      refine Evp.yes rfl (Evp.pure _ ⟨by omega, fun h => by show (0 : Int) < n; omega, rfl⟩)
    | false =>
      obtain ⟨hn1, hl⟩ := hb rfl
      have hlen : (bs.length : Int) ≤ 2000 := by have := h.1; omega
      refine Evp.no (by decide) (Evp.ite (fun hlt => ?_) (fun hge => ?_))
      · refine Evp.yes h0 (Evp.no (by omega) (Evp.pure _ ?_))
        have hr := h.rd p
        rw [w64 (by omega) (by omega)]
        have := tmod_lo (b := n) hr.1 (by omega)
        exact ⟨this.1, fun _ => this.2, rfl⟩
      · have hm1 := tmod_lo (a := p) (b := (bs.length : Int)) h0 (by omega)
        have e7 : wrap64 (wrap64 (p * 7) + 3) = p * 7 + 3 := by rw [w64 (n := p * 7) (by omega) (by omega), w64 (by omega) (by omega)]
        have hm2 := tmod_lo (a := p * 7 + 3) (b := (bs.length : Int)) (by omega) (by omega)
        rw [e7]
        refine Evp.no (by omega) (Evp.yes hm1.1 (Evp.yes hm1.2 (Evp.yes hm2.1 (Evp.yes hm2.2 (Evp.no (by omega) (Evp.pure _ ?_))))))
        have r1 := h.rd (Int.tmod p (bs.length : Int))
        have r2 := h.rd (Int.tmod (p * 7 + 3) (bs.length : Int))
        generalize rd bs (Int.tmod p (bs.length : Int)) = a at r1 ⊢
        generalize rd bs (Int.tmod (p * 7 + 3) (bs.length : Int)) = c at r2 ⊢
        have hq : 0 ≤ Int.tdiv p (bs.length : Int) ∧ Int.tdiv p (bs.length : Int) ≤ p := by
          rw [tdiv_pos h0]
          exact ⟨Int.ediv_nonneg h0 (by omega), Int.ediv_le_self _ h0⟩
        generalize Int.tdiv p (bs.length : Int) = q at hq ⊢
        have ea : wrap64 (wrap64 a * 131) = a * 131 := by rw [w64 (n := a) (by omega) (by omega), w64 (by omega) (by omega)]
        have ec : wrap64 (wrap64 c * 1117) = c * 1117 := by rw [w64 (n := c) (by omega) (by omega), w64 (by omega) (by omega)]
        have e29 : wrap64 (p * 29) = p * 29 := w64 (by omega) (by omega)
        have eq5 : wrap64 (wrap64 q * 53) = q * 53 := by rw [w64 (n := q) (by omega) (by omega), w64 (by omega) (by omega)]
        have ex : wrap64 (wrap64 (wrap64 (a * 131 + c * 1117) + p * 29) + q * 53) = a * 131 + c * 1117 + p * 29 + q * 53 := by
          rw [w64 (n := a * 131 + c * 1117) (by omega) (by omega), w64 (n := a * 131 + c * 1117 + p * 29) (by omega) (by omega), w64 (by omega) (by omega)]
        rw [ea, ec, e29, eq5, ex]
        generalize hx : a * 131 + c * 1117 + p * 29 + q * 53 = X
        have hX : 0 ≤ X ∧ X < 4611686018427387904 := by omega
        have hd : 0 ≤ Int.tdiv X 64 ∧ Int.tdiv X 64 ≤ X := by rw [tdiv_pos hX.1]; omega
        rw [w64 (n := Int.tdiv X 64) (by omega) (by omega)]
        have hz := xor_nonneg hX.1 hX.2 hd.1 (by omega)
        have := tmod_lo (b := n) hz.1 (by omega)
        exact ⟨this.1, fun _ => this.2, rfl⟩
  unfold spec_l6Rd_pick.f
  rw [hp]
  refine Evp.ite (fun hn1 => key true (fun h => by cases h)) (fun hn1 => key _ (fun hb => ⟨by omega, ?_⟩))
  intro hl
  rw [hl] at hb
  simp at hb
end Go.Proofs.Yteeakklnlcjgbaa.Kit

end
section

namespace Go.Proofs.Yteeakklnlcjgbaa.Kit
open Go Go.RowKit Go.Proofs.YteeakklnlcjgbaaW.PrintWords Go.Proofs.Yteeakklnlcjgbaa.P
set_option linter.unusedVariables false
theorem le_vals {l : List S46} (hl : l.length ≤ 1073741824) : Evp (fun k => laws_leVals.f k l l) (fun r => r = true) := by
  unfold laws_leVals.f
  refine Evp.yes rfl ?_
  have key : ∀ i, i ≤ l.length → Evp (fun k => laws_leVals.l0 k l l (i : Int)) (fun r => r = true) := by
    refine Evp.for_ ?_ (fun i hi ih => ?_)
    · exact Evp.step (f := fun k => _) (fun k => by rw [laws_leVals.l0]) (Evp.no (by omega) (Evp.pure _ rfl))
    · refine Evp.step (f := fun k => _) (fun k => by rw [laws_leVals.l0, w64' hi (by omega)]) (Evp.yes (by omega) (Evp.yes (by omega) (Evp.yes (by omega) (Evp.no (by simp) ih))))
  exact key 0 (Nat.zero_le _)
theorem le_objs {l : List S48} (hs : Small l) : Evp (fun k => laws_leObjs.f k l l) (fun r => r = true) := by
  have hl := hs.1
  unfold laws_leObjs.f
  refine Evp.yes rfl ?_
  have key : ∀ i, i ≤ l.length → Evp (fun k => laws_leObjs.l0 k l l (i : Int)) (fun r => r = true) := by
    refine Evp.for_ ?_ (fun i hi ih => ?_)
    · exact Evp.step (f := fun k => _) (fun k => by rw [laws_leObjs.l0]) (Evp.no (by omega) (Evp.pure _ rfl))
    · refine Evp.step (f := fun k => _) (fun k => by rw [laws_leObjs.l0, rd48 hi, w64' hi (by omega)]) (Evp.yes (by omega) (Evp.yes (by omega) (Evp.yes (by omega) (Evp.yes rfl ?_))))
      refine Evp.bind (f := fun k t => if t = true then laws_leObjs.l0 k l l ((i + 1 : Nat) : Int) else some false) (le_vals (hs.2 _ (List.getElem_mem hi))) (fun t e => ?_)
      subst e
      exact Evp.yes rfl ih
  exact key 0 (Nat.zero_le _)
theorem word_evp {bs : List Int} (h : Bytes bs) {p : Int} (h0 : 0 ≤ p) (h1 : p ≤ 900000000) : Evp (fun k => spec_l71Word.f k bs p) (fun r => r.2 = p + 2) := by
  unfold spec_l71Word.f
  refine Evp.bind (pick_evp h h0 (by omega) (by decide)) fun a ha => ?_
  obtain ⟨a1, a2⟩ := a
  obtain ⟨ha0, ha1, rfl⟩ := ha
  refine Evp.ite (fun _ => ?_) (fun _ => ?_)
  · simp only [Option.bind_some]
    refine Evp.bind (pick_evp h (by omega) (by omega) (by decide)) fun d hd => ?_
    obtain ⟨d1, d2⟩ := d
    obtain ⟨hd0, hd1, rfl⟩ := hd
    have hd2 := hd1 (by decide)
    dsimp only at hd0 hd2
    exact Evp.yes hd0 (Evp.yes (by simpa using hd2) (Evp.pure _ (by show p + 1 + 1 = p + 2; omega)))
  · refine Evp.bind (pick_evp h (by omega) (by omega) (by decide)) fun d hd => ?_
    obtain ⟨d1, d2⟩ := d
    obtain ⟨hd0, hd1, rfl⟩ := hd
    exact Evp.pure _ (by show p + 1 + 1 = p + 2; omega)
theorem val_evp {bs : List Int} (h : Bytes bs) {p n : Int} (h0 : 0 ≤ p) (h1 : p ≤ 800000000) (hn0 : 0 ≤ n) (hn : n ≤ 1000) : Evp (fun k => spec_l72Val.f k bs p n) (fun r => p ≤ r.2.2 ∧ r.2.2 ≤ p + 3) := by
  unfold spec_l72Val.f
  refine Evp.bind (pick_evp h h0 (by omega) (by decide)) fun a ha => ?_
  obtain ⟨a1, a2⟩ := a
  obtain ⟨ha0, ha1, rfl⟩ := ha
  refine Evp.ite (fun _ => ?_) (fun _ => ?_)
  · refine Evp.bind (word_evp h (by omega) (by omega)) fun d hd => ?_
    obtain ⟨d1, d2⟩ := d
    obtain rfl := hd
    exact Evp.pure _ ⟨by show p ≤ p + 1 + 2; omega, by show p + 1 + 2 ≤ p + 3; omega⟩
  · rw [w64 (n := n + 1) (by omega) (by omega)]
    refine Evp.bind (pick_evp h (by omega) (by omega) (by omega)) fun d hd => ?_
    obtain ⟨d1, d2⟩ := d
    obtain ⟨hd0, hd1, rfl⟩ := hd
    exact Evp.pure _ ⟨by show p ≤ p + 1 + 1; omega, by show p + 1 + 1 ≤ p + 3; omega⟩
def Few (r : List S48 × List S46 × Int) : Prop := (r.1.length ≤ 100 ∧ ∀ o ∈ r.1, o.f1.length ≤ 100) ∧ r.2.1.length ≤ 100
theorem roots_evp {bs : List Int} (h : Bytes bs) {objs : List S48} (ho : objs.length ≤ 100 ∧ ∀ o ∈ objs, o.f1.length ≤ 100) {n : Int} (hn0 : 0 ≤ n) (hn : n ≤ 1000) :
    ∀ (c : Nat) (vs : List S46) (p : Int), 0 ≤ p → p + 3 * c ≤ 100000000 → vs.length + c ≤ 50 → Evp (fun k => spec_l72Heap.l2 k n objs vs (c : Int) bs p) Few
  | 0, vs, p, h0, h1, hl => by
    refine Evp.step (f := fun k => _) (fun k => by rw [spec_l72Heap.l2]) (Evp.no (by omega) ?_)
    refine Evp.bind (pick_evp h h0 (by omega) (by decide)) fun a ha => ?_
    obtain ⟨a1, a2⟩ := a
    obtain ⟨ha0, ha1, rfl⟩ := ha
    refine Evp.ite (fun _ => ?_) (fun _ => Evp.pure _ ⟨ho, by show vs.length ≤ 100; omega⟩)
    simp only [Option.bind_some]
    refine Evp.bind (pick_evp h (by omega) (by omega) (by decide)) fun d hd => ?_
    obtain ⟨d1, d2⟩ := d
    obtain ⟨hd0, hd1, rfl⟩ := hd
    have hd2 := hd1 (by decide)
    dsimp only at hd0 hd2
    exact Evp.yes hd0 (Evp.yes (by simpa using hd2) (Evp.yes (by omega) (Evp.pure _ ⟨ho, by simp; omega⟩)))
  | c + 1, vs, p, h0, h1, hl => by
    refine Evp.step (f := fun k => _) (fun k => by rw [spec_l72Heap.l2]) (Evp.yes (by omega) ?_)
    refine Evp.bind (val_evp h h0 (by omega) hn0 hn) fun a ha => ?_
    obtain ⟨a1, a2, a3⟩ := a
    obtain ⟨ha0, ha1⟩ := ha
    dsimp only at ha0 ha1
    refine Evp.yes (by omega) ?_
    rw [show wrap64 (((c + 1 : Nat) : Int) - 1) = (c : Int) by rw [w64 (by omega) (by omega)]; omega]
    dsimp only
    exact roots_evp h ho hn0 hn c _ _ (by omega) (by omega) (by simp; omega)
theorem vals_evp {bs : List Int} (h : Bytes bs) {objs : List S48} {n i cl : Int} (hn0 : 0 ≤ n) (hn : n ≤ 1000) (ho : objs.length ≤ 100) {R : List S48 × List S46 × Int → Prop} :
    ∀ (c : Nat) (vs : List S46) (p : Int), 0 ≤ p → p + 3 * c ≤ 100000000 → vs.length + c ≤ 50 →
      (∀ vs' p', vs'.length ≤ vs.length + c → p ≤ p' → p' ≤ p + 3 * c → Evp (fun k => spec_l72Heap.l0 k n (objs ++ [(⟨cl, vs'⟩ : S48)]) (wrap64 (i + 1)) bs p') R) → Evp (fun k => spec_l72Heap.l1 k n objs i (c : Int) bs p cl vs) R
  | 0, vs, p, h0, h1, hl, hk => by
    refine Evp.step (f := fun k => _) (fun k => by rw [spec_l72Heap.l1]) (Evp.no (by omega) (Evp.yes (by omega) ?_))
    exact hk vs p (by omega) (by omega) (by omega)
  | c + 1, vs, p, h0, h1, hl, hk => by
    refine Evp.step (f := fun k => _) (fun k => by rw [spec_l72Heap.l1]) (Evp.yes (by omega) ?_)
    refine Evp.bind (val_evp h h0 (by omega) hn0 hn) fun a ha => ?_
    obtain ⟨a1, a2, a3⟩ := a
    obtain ⟨ha0, ha1⟩ := ha
    dsimp only at ha0 ha1
    refine Evp.yes (by omega) ?_
    rw [show wrap64 (((c + 1 : Nat) : Int) - 1) = (c : Int) by rw [w64 (by omega) (by omega)]; omega]
    dsimp only
    exact vals_evp h hn0 hn ho c _ _ (by omega) (by omega) (by simp; omega) (fun vs' p' h2 h3 h4 => hk vs' p' (by simp at h2; omega) (by omega) (by omega))
theorem things_evp {bs : List Int} (h : Bytes bs) {n : Nat} (hn : n ≤ 20) : ∀ (d i : Nat) (objs : List S48) (p : Int), i + d = n → objs.length = i → (∀ o ∈ objs, o.f1.length ≤ 100) → 0 ≤ p → p + 100 * d ≤ 10000000 → Evp (fun k => spec_l72Heap.l0 k (n : Int) objs (i : Int) bs p) Few
  | 0, i, objs, p, hd, ho, hv, h0, h1 => by
    refine Evp.step (f := fun k => _) (fun k => by rw [spec_l72Heap.l0]) (Evp.no (by omega) ?_)
    refine Evp.bind (pick_evp h h0 (by omega) (by decide)) fun a ha => ?_
    obtain ⟨a1, a2⟩ := a
    obtain ⟨ha0, ha1, rfl⟩ := ha
    have ha2 := ha1 (by decide)
    dsimp only at ha0 ha2
    obtain ⟨c, rfl⟩ := Int.eq_ofNat_of_zero_le ha0
    exact roots_evp h ⟨by omega, hv⟩ (by omega) (by omega) c [] _ (by omega) (by omega) (by simp; omega)
  | d + 1, i, objs, p, hd, ho, hv, h0, h1 => by
    refine Evp.step (f := fun k => _) (fun k => by rw [spec_l72Heap.l0]) (Evp.yes (by omega) ?_)
    refine Evp.bind (pick_evp h h0 (by omega) (by decide)) fun a ha => ?_
    obtain ⟨a1, a2⟩ := a
    obtain ⟨ha0, ha1, rfl⟩ := ha
    refine Evp.bind (pick_evp h (by omega) (by omega) (by decide)) fun b hb => ?_
    obtain ⟨b1, b2⟩ := b
    obtain ⟨hb0, hb1, rfl⟩ := hb
    have hb2 := hb1 (by decide)
    dsimp only at hb0 hb2
    obtain ⟨c, rfl⟩ := Int.eq_ofNat_of_zero_le hb0
    refine vals_evp h (by omega) (by omega) (by omega) c [] _ (by omega) (by omega) (by simp; omega) (fun vs' p' h2 h3 h4 => ?_)
    rw [show wrap64 ((i : Int) + 1) = ((i + 1 : Nat) : Int) by rw [w64 (by omega) (by omega)]; omega]
    refine things_evp h hn d (i + 1) _ _ (by omega) (by simp; omega) (fun o hm => ?_) (by omega) (by omega)
    rcases List.mem_append.1 hm with hm | hm
    · exact hv o hm
    · simp at hm
      subst hm
      simp at h2
      show vs'.length ≤ 100
      omega
theorem draw_graph {l : List Int} (h : ∀ x ∈ l, (Lit.int .u8 x).wf = true) : Evp (fun k => spec_DrawHeapGraph.f k l) (fun r => (r.1.length ≤ 100 ∧ ∀ o ∈ r.1, o.f1.length ≤ 100) ∧ r.2.length ≤ 100) := by
  obtain ⟨bs, hb, hB⟩ := open_evp h
  unfold spec_DrawHeapGraph.f
  rw [hb]
  simp only [Option.bind_some]
  have key : Evp (fun k => spec_l72Heap.f k bs 0) Few := by
    unfold spec_l72Heap.f
    refine Evp.bind (pick_evp hB (by decide) (by decide) (by decide)) fun a ha => ?_
    obtain ⟨a1, a2⟩ := a
    obtain ⟨ha0, ha1, rfl⟩ := ha
    have ha2 := ha1 (by decide)
    dsimp only at ha0 ha2
    obtain ⟨n, rfl⟩ := Int.eq_ofNat_of_zero_le ha0
    exact things_evp hB (by omega) n 0 [] _ (by omega) rfl (by simp) (by omega) (by omega)
  refine Evp.bind key fun r hr => Evp.pure _ hr
end Go.Proofs.Yteeakklnlcjgbaa.Kit

end
section

namespace Go.Proofs.Yteeakklnlcjgbaa.Pure
open Go Go.RowKit Go.Proofs.YteeakklnlcjgbaaW.PrintWords Go.Proofs.Yteeakklnlcjgbaa.P Go.Proofs.Yteeakklnlcjgbaa.Kit
set_option linter.unusedVariables false
theorem FnGraphTwice : laws_FnGraphTwice.Pure := by
  intro l _ _ h
  refine Evp.rounds ?_
  unfold laws_FnGraphTwice.f
  refine Evp.ite (fun _ => Evp.pure _ rfl) (fun _ => ?_)
  refine Evp.bind (draw_graph h) fun a ha => ?_
  obtain ⟨objs, roots⟩ := a
  obtain ⟨⟨ho, hv⟩, hr⟩ := ha
  dsimp only at ho hv hr
  have hs : Small objs := ⟨by omega, fun o hm => by have := hv o hm; omega⟩
  have hrl : roots.length ≤ 1073741824 := by omega
  have hp := hg_parts hs hrl
  refine Evp.bind (impl_graph hs hrl) fun g e => ?_
  subst e
  refine Evp.bind (spec_graph hs hrl) fun g e => ?_
  subst e
  refine Evp.bind (le_objs hp.1) fun t e => ?_
  subst e
  refine Evp.yes rfl ?_
  refine Evp.bind (le_vals hp.2.1) fun t e => ?_
  subst e
  refine Evp.step (f := fun k => _) (fun k => by rw [laws_FnGraphTwice.j0]) (Evp.no (by simp) ?_)
  refine Evp.bind (impl_graph hp.1 hp.2.1) fun g e => ?_
  subst e
  rw [hp.2.2.2.2]
  refine Evp.bind (le_objs hp.1) fun t e => ?_
  subst e
  refine Evp.yes rfl ?_
  refine Evp.bind (le_vals hp.2.1) fun t e => ?_
  subst e
  have h4 := hp.2.2.1
  refine Evp.yes rfl (Evp.yes (show ((HG objs roots).1.length : Int) ≤ (objs.length : Int) by omega) ?_)
  refine Evp.bind (impl_heap hp.1 hp.2.1) fun t e => ?_
  subst e
  exact Evp.pure _ hp.2.2.2.1
end Go.Proofs.Yteeakklnlcjgbaa.Pure

end
