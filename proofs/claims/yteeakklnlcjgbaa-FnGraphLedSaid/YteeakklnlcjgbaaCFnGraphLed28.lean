/- A part of the claim FnGraphLed: texts of this session and texts that its program printed out of the translation, joined. -/
import Derived.Test.YteeakklnlcjgbaaCFnGraphLed22
import Derived.Test.YteeakklnlcjgbaaCFnGraphLed23
import Derived.Test.YteeakklnlcjgbaaCFnGraphLed24
import Derived.Test.YteeakklnlcjgbaaCFnGraphLed25
import Derived.Test.YteeakklnlcjgbaaCFnGraphLed26
import Derived.Test.YteeakklnlcjgbaaCFnGraphLed27
import Derived.Test.YteeakklnlcjgbaaCFnGraphLed20
import Derived.Test.YteeakklnlcjgbaaCFnGraphLed0
import Derived.Test.YteeakklnlcjgbaaCFnGraphLed1
import Derived.Test.YteeakklnlcjgbaaCFnGraphLed2
import Derived.Test.YteeakklnlcjgbaaCFnGraphLed3
import Derived.Test.YteeakklnlcjgbaaCFnGraphLed4
import Derived.Test.YteeakklnlcjgbaaCFnGraphLed5
import Derived.Test.YteeakklnlcjgbaaCFnGraphLed6
import Derived.Test.YteeakklnlcjgbaaCFnGraphLed7
import Derived.Test.YteeakklnlcjgbaaCFnGraphLed8
import Derived.Test.YteeakklnlcjgbaaCFnGraphLed9
import Derived.Test.YteeakklnlcjgbaaCFnGraphLed10
import Derived.Test.YteeakklnlcjgbaaCFnGraphLed11
import Derived.Test.YteeakklnlcjgbaaCFnGraphLed12
import Derived.Test.YteeakklnlcjgbaaCFnGraphLed13
import Derived.Test.YteeakklnlcjgbaaCFnGraphLed14
import Derived.Test.YteeakklnlcjgbaaCFnGraphLed15
import Derived.Test.YteeakklnlcjgbaaCFnGraphLed16
import Derived.Test.YteeakklnlcjgbaaCFnGraphLed17
import Derived.Test.YteeakklnlcjgbaaCFnGraphLed18
import Derived.Test.YteeakklnlcjgbaaCFnGraphLed19
import Derived.Test.YteeakklnlcjgbaaCFnGraphLed21
section

namespace Go.Proofs.Yteeakklnlcjgbaa.P
open Go.RowKit Go.Proofs.YteeakklnlcjgbaaW.PrintWords Go.Proofs.YteeakklnlcjgbaaW.PrintLast Go.Proofs.YteeakklnlcjgbaaW.PrintMore
attribute [local go_sem] max2_int min2_int max_two min_two max_three min_three max_four min_four
set_option linter.unusedVariables false
set_option linter.unusedSimpArgs false
set_option maxHeartbeats 8000000 in
set_option maxRecDepth 100000 in
theorem laws_FnGraphLed.calls (k : Nat) (A0 : Option Addr) (c0 : Nat) (l0 : List Int) (r : Bool) (w : World) (hr0 : Kd.C (Kd.int .u8) w A0 l0.length l0) (hc0 : l0.length ≤ c0) (h : laws_FnGraphLed.f k l0 = some r) (hr_ : r = true) :
    Calls Try.prog 8 #[.slice A0 l0.length c0] w fun e w' => e = .returned (.bool r) ∧ Below w.heap.size w w' := by
  have hu46 := Try.underlying46
  have HR0 := Aside0.mk hr0
  have HC0 := Aside0.mk hc0
  clear hr0 hc0
  have HB := Aside0.mk (Below.refl w.heap.size w)
  have H : (if (l0.length : Int) > 1048576 then (some true) else ((spec_DrawHeapGraph.f k l0).bind fun bt380 => ((impl_HeapGraph.f k bt380.1 bt380.2).bind fun bt386 => ((spec_HeapGraph.f k bt380.1 bt380.2).bind fun bt392 => ((laws_leObjs.f k bt386.1 bt392.1).bind fun t398 => (if t398 = true then ((laws_leVals.f k bt386.2 bt392.2).bind fun t399 => (laws_FnGraphLed.j0 k bt386.1 bt386.2 (!t399))) else (laws_FnGraphLed.j0 k bt386.1 bt386.2 true))))))) = some r := h
  clear h
  by_cases c2 : (l0.length : Int) > 1048576
  · rw [if_pos c2] at H
    have c2b0 : decide (1048576 < (l0.length : Int)) = true := decide_eq_true c2
    have c2b1 : decide (1048576 < l0.length) = true := decide_eq_true (by omega)
    clear c2
    obtain rfl := Option.some.inj H
    simp only [Option.some.injEq, Prod.mk.injEq] at H
    obtain ⟨rfl⟩ := H
    go_enter Try.func8, Try.ntmps8
    go_wp2
    go_ret
    exact ⟨by first | rfl | (simp [errW_none, errW_some] <;> rfl) | (simp [*, errW_none, errW_some] <;> rfl), by repeat (first | (with_reducible first | exact HB.out | apply below_alloc | apply pw_below_drewN | apply below_drew1) | exact HB.out)⟩
  · rw [if_neg c2] at H
    have c2b0 : decide (1048576 < (l0.length : Int)) = false := decide_eq_false c2
    have c2b1 : decide (1048576 < l0.length) = false := decide_eq_false (by omega)
    clear c2
    replace H := Option.bind_eq_some_iff.mp H
    obtain ⟨⟨t380, t381⟩, A30, H⟩ := H
    replace H : ((impl_HeapGraph.f k t380 t381).bind fun bt386 => ((spec_HeapGraph.f k t380 t381).bind fun bt392 => ((laws_leObjs.f k bt386.1 bt392.1).bind fun t398 => (if t398 = true then ((laws_leVals.f k bt386.2 bt392.2).bind fun t399 => (laws_FnGraphLed.j0 k bt386.1 bt386.2 (!t399))) else (laws_FnGraphLed.j0 k bt386.1 bt386.2 true))))) = some r := H
    have A3 := Aside0.mk A30
    clear A30
    replace H := Option.bind_eq_some_iff.mp H
    obtain ⟨⟨t386, t387⟩, A40, H⟩ := H
    replace H : ((spec_HeapGraph.f k t380 t381).bind fun bt392 => ((laws_leObjs.f k t386 bt392.1).bind fun t398 => (if t398 = true then ((laws_leVals.f k t387 bt392.2).bind fun t399 => (laws_FnGraphLed.j0 k t386 t387 (!t399))) else (laws_FnGraphLed.j0 k t386 t387 true)))) = some r := H
    have A4 := Aside0.mk A40
    clear A40
    replace H := Option.bind_eq_some_iff.mp H
    obtain ⟨⟨t392, t393⟩, A50, H⟩ := H
    replace H : ((laws_leObjs.f k t386 t392).bind fun t398 => (if t398 = true then ((laws_leVals.f k t387 t393).bind fun t399 => (laws_FnGraphLed.j0 k t386 t387 (!t399))) else (laws_FnGraphLed.j0 k t386 t387 true))) = some r := H
    have A5 := Aside0.mk A50
    clear A50
    have HC6 := Aside0.mk H
    clear H
    go_enter Try.func8, Try.ntmps8
    go_upto_region 6 with (first | ((with_reducible refine gate_callee (f := 29) rfl ?_); refine goesL_ (some 19) rfl rfl Try.func29 (by kernel_rfl) rfl #[.slice A0 l0.length c0] rfl (by (try simp only [List.map_toArray, List.map_cons, List.map_nil]); first | done | rfl | (simp only [List.length_drop, List.length_take]; rfl)) ?_; (with_reducible refine (spec_DrawHeapGraph.calls k _ _ l0 t380 t381 _ ?side1 ?side2 A3.out).mono ?_); (case side1 => repeat (first | exact HR0.out | (with_reducible refine Kd.C_alloc ?_ _) | (with_reducible refine Kd.C_drewN ?_ _) | (with_reducible refine Kd.C_drew ?_))); (case side2 => exact HC0.out); rintro e w7 ⟨v382, v384, rfl, ho0, ho1, hb⟩; refine ⟨_, rfl, ?_⟩; have n0_ := Aside0.mk (Kd.S_lower ho0 (below_size (by repeat (first | (with_reducible first | exact HB.out | apply below_alloc | apply pw_below_drewN | apply below_drew1) | exact HB.out)))); have n1_ := Aside0.mk (Kd.R_lower ho1 (below_size (by repeat (first | (with_reducible first | exact HB.out | apply below_alloc | apply pw_below_drewN | apply below_drew1) | exact HB.out)))); have n2_ := Aside0.mk (below_step (by repeat (first | (with_reducible first | exact HB.out | apply below_alloc | apply pw_below_drewN | apply below_drew1) | exact HB.out)) hb); clear HB; have HO383 := n0_; have HO385 := n1_; have HB := n2_; clear n0_ n1_ n2_; (try clear hb); (try clear hb2); (try clear hk); (try clear hi); (try clear ho0); (try clear ho1); obtain ⟨Ao8, co8, eo8⟩ := Kd.S_slice HO383.out; subst eo8; obtain ⟨Ao9, co9, eo9⟩ := Kd.R_slice HO385.out; subst eo9) | ((with_reducible refine gate_callee (f := 24) rfl ?_); refine goesL_ (some 25) rfl rfl Try.func24 (by kernel_rfl) rfl #[.slice Ao8 t380.length co8, .slice Ao9 t381.length co9] rfl (by (try simp only [List.map_toArray, List.map_cons, List.map_nil]); first | done | rfl | (simp only [List.length_drop, List.length_take]; rfl)) ?_; (with_reducible refine (impl_HeapGraph.calls k _ _ t380 _ _ t381 t386 t387 _ ?side1 ?side2 ?side3 ?side4 A4.out).mono ?_); (case side1 => repeat (first | exact (Kd.S_reads' HO383.out).2.2 | (with_reducible refine Kd.C_alloc ?_ _) | (with_reducible refine Kd.C_drewN ?_ _) | (with_reducible refine Kd.C_drew ?_))); (case side2 => exact (Kd.S_reads' HO383.out).2.1); (case side3 => repeat (first | exact (Kd.R_reads' HO385.out).2.2 | (with_reducible refine Kd.C_alloc ?_ _) | (with_reducible refine Kd.C_drewN ?_ _) | (with_reducible refine Kd.C_drew ?_))); (case side4 => exact (Kd.R_reads' HO385.out).2.1); rintro e w10 ⟨v388, v390, rfl, ho0, ho1, hb⟩; refine ⟨_, rfl, ?_⟩; have n0_ := Aside0.mk (Kd.S_mono (Kd.S_told (Kd.S_told (Kd.S_old (by (with_reducible repeat (first | apply Kd.S_alloc | apply Kd.S_drewN | apply Kd.S_drew)); exact HO383.out) hb) (Kd.S_base ho0)) (Kd.R_base ho1)) (fun _ h_ => h_.1)); have n1_ := Aside0.mk (Kd.R_elder' (by (with_reducible repeat (first | apply Kd.R_alloc | apply Kd.R_drewN | apply Kd.R_drew)); exact HO385.out) (Kd.R_base ho1) hb); have n2_ := Aside0.mk (Kd.S_lower (Kd.S_new' (Kd.S_new' ho0 (Kd.S_lt (by (with_reducible repeat (first | apply Kd.S_alloc | apply Kd.S_drewN | apply Kd.S_drew)); exact HO383.out))) (Kd.R_lt (by (with_reducible repeat (first | apply Kd.R_alloc | apply Kd.R_drewN | apply Kd.R_drew)); exact HO385.out))) (below_size (by repeat (first | (with_reducible first | exact HB.out | apply below_alloc | apply pw_below_drewN | apply below_drew1) | exact HB.out)))); have n3_ := Aside0.mk (Kd.R_lower (Kd.R_new' ho1 (Kd.R_lt (by (with_reducible repeat (first | apply Kd.R_alloc | apply Kd.R_drewN | apply Kd.R_drew)); exact HO385.out))) (below_size (by repeat (first | (with_reducible first | exact HB.out | apply below_alloc | apply pw_below_drewN | apply below_drew1) | exact HB.out)))); have n4_ := Aside0.mk (below_step (by repeat (first | (with_reducible first | exact HB.out | apply below_alloc | apply pw_below_drewN | apply below_drew1) | exact HB.out)) hb); clear HO383; clear HO385; clear HB; have HO383 := n0_; have HO385 := n1_; have HO389 := n2_; have HO391 := n3_; have HB := n4_; clear n0_ n1_ n2_ n3_ n4_; (try clear hb); (try clear hb2); (try clear hk); (try clear hi); (try clear ho0); (try clear ho1)) | ((with_reducible refine gate_callee (f := 23) rfl ?_); refine goesL_ (some 31) rfl rfl Try.func23 (by kernel_rfl) rfl #[.slice Ao8 t380.length co8, .slice Ao9 t381.length co9] rfl (by (try simp only [List.map_toArray, List.map_cons, List.map_nil]); first | done | rfl | (simp only [List.length_drop, List.length_take]; rfl)) ?_; (with_reducible refine (spec_HeapGraph.calls k _ _ t380 _ _ t381 t392 t393 _ ?side1 ?side2 ?side3 ?side4 A5.out).mono ?_); (case side1 => repeat (first | exact (Kd.S_reads' HO383.out).2.2 | (with_reducible refine Kd.C_alloc ?_ _) | (with_reducible refine Kd.C_drewN ?_ _) | (with_reducible refine Kd.C_drew ?_))); (case side2 => exact (Kd.S_reads' HO383.out).2.1); (case side3 => repeat (first | exact (Kd.R_reads' HO385.out).2.2 | (with_reducible refine Kd.C_alloc ?_ _) | (with_reducible refine Kd.C_drewN ?_ _) | (with_reducible refine Kd.C_drew ?_))); (case side4 => exact (Kd.R_reads' HO385.out).2.1); rintro e w11 ⟨v394, v396, rfl, ho0, ho1, hb⟩; refine ⟨_, rfl, ?_⟩; have n0_ := Aside0.mk (Kd.S_mono (Kd.S_told (Kd.S_told (Kd.S_old (by (with_reducible repeat (first | apply Kd.S_alloc | apply Kd.S_drewN | apply Kd.S_drew)); exact HO383.out) hb) (Kd.S_base ho0)) (Kd.R_base ho1)) (fun _ h_ => h_.1)); have n1_ := Aside0.mk (Kd.R_elder' (by (with_reducible repeat (first | apply Kd.R_alloc | apply Kd.R_drewN | apply Kd.R_drew)); exact HO385.out) (Kd.R_base ho1) hb); have n2_ := Aside0.mk (Kd.S_mono (Kd.S_told (Kd.S_told (Kd.S_old (by (with_reducible repeat (first | apply Kd.S_alloc | apply Kd.S_drewN | apply Kd.S_drew)); exact HO389.out) hb) (Kd.S_base ho0)) (Kd.R_base ho1)) (fun _ h_ => h_.1)); have n3_ := Aside0.mk (Kd.R_elder' (by (with_reducible repeat (first | apply Kd.R_alloc | apply Kd.R_drewN | apply Kd.R_drew)); exact HO391.out) (Kd.R_base ho1) hb); have n4_ := Aside0.mk (Kd.S_lower (Kd.S_new' (Kd.S_new' (Kd.S_new' (Kd.S_new' ho0 (Kd.S_lt (by (with_reducible repeat (first | apply Kd.S_alloc | apply Kd.S_drewN | apply Kd.S_drew)); exact HO383.out))) (Kd.R_lt (by (with_reducible repeat (first | apply Kd.R_alloc | apply Kd.R_drewN | apply Kd.R_drew)); exact HO385.out))) (Kd.S_lt (by (with_reducible repeat (first | apply Kd.S_alloc | apply Kd.S_drewN | apply Kd.S_drew)); exact HO389.out))) (Kd.R_lt (by (with_reducible repeat (first | apply Kd.R_alloc | apply Kd.R_drewN | apply Kd.R_drew)); exact HO391.out))) (below_size (by repeat (first | (with_reducible first | exact HB.out | apply below_alloc | apply pw_below_drewN | apply below_drew1) | exact HB.out)))); have n5_ := Aside0.mk (Kd.R_lower (Kd.R_new' (Kd.R_new' ho1 (Kd.R_lt (by (with_reducible repeat (first | apply Kd.R_alloc | apply Kd.R_drewN | apply Kd.R_drew)); exact HO385.out))) (Kd.R_lt (by (with_reducible repeat (first | apply Kd.R_alloc | apply Kd.R_drewN | apply Kd.R_drew)); exact HO391.out))) (below_size (by repeat (first | (with_reducible first | exact HB.out | apply below_alloc | apply pw_below_drewN | apply below_drew1) | exact HB.out)))); have n6_ := Aside0.mk (below_step (by repeat (first | (with_reducible first | exact HB.out | apply below_alloc | apply pw_below_drewN | apply below_drew1) | exact HB.out)) hb); clear HO383; clear HO385; clear HO389; clear HO391; clear HB; have HO383 := n0_; have HO385 := n1_; have HO389 := n2_; have HO391 := n3_; have HO395 := n4_; have HO397 := n5_; have HB := n6_; clear n0_ n1_ n2_ n3_ n4_ n5_ n6_; (try clear hb); (try clear hb2); (try clear hk); (try clear hi); (try clear ho0); (try clear ho1)))
    (try simp only [Act.put, List.setIfInBounds_toArray, List.set_cons_zero, List.set_cons_succ])
    go_cut [43] (fun v43 wc => ∃ (kq : Nat) (x43_5 : Bool), v43 = .bool x43_5 ∧ Aside0 (laws_FnGraphLed.j0 kq t386 t387 x43_5 = some r) ∧ Aside0 (kq ≤ k) ∧ Aside0 (Kd.S k48 48 wc w.heap.size (fun k_ => some k_ ≠ (v390 : Value).ownBlock) v388 t386) ∧ Aside0 (Kd.R k46 46 wc w.heap.size (fun _ => True) v390 t387) ∧ Aside0 (Below w.heap.size w wc))
    case first =>
      have H := HC6.out
      clear HC6
      replace H := Option.bind_eq_some_iff.mp H
      obtain ⟨t398, A120, H⟩ := H
      replace H : (if t398 = true then ((laws_leVals.f k t387 t393).bind fun t399 => (laws_FnGraphLed.j0 k t386 t387 (!t399))) else (laws_FnGraphLed.j0 k t386 t387 true)) = some r := H
      have A12 := Aside0.mk A120
      clear A120
      by_cases c13 : t398 = true
      · subst c13
        have H1 : ((laws_leVals.f k t387 t393).bind fun t399 => (laws_FnGraphLed.j0 k t386 t387 (!t399))) = some r := by rw [if_pos rfl] at H; exact H
        clear H
        have H := H1
        clear H1
        replace H := Option.bind_eq_some_iff.mp H
        obtain ⟨t399, A140, H⟩ := H
        replace H : (laws_FnGraphLed.j0 k t386 t387 (!t399)) = some r := H
        have A14 := Aside0.mk A140
        clear A140
        have H' := Aside0.mk H
        clear H
        obtain ⟨Ao15, co15, eo15⟩ := Kd.S_slice HO389.out
        subst eo15
        obtain ⟨Ao16, co16, eo16⟩ := Kd.S_slice HO395.out
        subst eo16
        go_wp2_with (first | ((with_reducible refine gate_callee (f := 30) rfl ?_); refine goesL_ (some 36) rfl rfl Try.func30 (by kernel_rfl) rfl #[.slice Ao15 t386.length co15, .slice Ao16 t392.length co16] rfl (by (try simp only [List.map_toArray, List.map_cons, List.map_nil]); first | done | rfl | (simp only [List.length_drop, List.length_take]; rfl)) ?_; (with_reducible refine (laws_leObjs.calls k _ _ t386 _ _ t392 true _ ?side1 ?side2 ?side3 ?side4 A12.out).mono ?_); (case side1 => repeat (first | exact (Kd.S_reads' HO389.out).2.2 | (with_reducible refine Kd.C_alloc ?_ _) | (with_reducible refine Kd.C_drewN ?_ _) | (with_reducible refine Kd.C_drew ?_))); (case side2 => exact (Kd.S_reads' HO389.out).2.1); (case side3 => repeat (first | exact (Kd.S_reads' HO395.out).2.2 | (with_reducible refine Kd.C_alloc ?_ _) | (with_reducible refine Kd.C_drewN ?_ _) | (with_reducible refine Kd.C_drew ?_))); (case side4 => exact (Kd.S_reads' HO395.out).2.1); rintro e w' ⟨rfl, ⟨nd, rfl⟩⟩; refine ⟨_, rfl, ?_⟩; obtain ⟨Ao17, co17, eo17⟩ := Kd.R_slice HO391.out; subst eo17; obtain ⟨Ao18, co18, eo18⟩ := Kd.R_slice HO397.out; subst eo18) | (go_at_call 31; (with_reducible refine (laws_leVals.calls k _ _ t387 _ _ t393 t399 _ ?side1 ?side2 ?side3 ?side4 A14.out).mono ?_); (case side1 => repeat (first | exact (Kd.R_reads' HO391.out).2.2 | (with_reducible refine Kd.C_alloc ?_ _) | (with_reducible refine Kd.C_drewN ?_ _) | (with_reducible refine Kd.C_drew ?_))); (case side2 => exact (Kd.R_reads' HO391.out).2.1); (case side3 => repeat (first | exact (Kd.R_reads' HO397.out).2.2 | (with_reducible refine Kd.C_alloc ?_ _) | (with_reducible refine Kd.C_drewN ?_ _) | (with_reducible refine Kd.C_drew ?_))); (case side4 => exact (Kd.R_reads' HO397.out).2.1); rintro e w' ⟨rfl, ⟨nd, rfl⟩⟩))
        go_meet
        case rel => exact ⟨_, (!t399), (by first | rfl | (simp; done) | (simp [*]; done)), H', ⟨by first | omega | exact Nat.le_refl _⟩, ⟨by (with_reducible repeat (first | apply Kd.S_alloc | apply Kd.S_drewN | apply Kd.S_drew)); exact Kd.S_mono HO389.out (fun _ hk => hk.1.1.1.1)⟩, ⟨by (with_reducible repeat (first | apply Kd.R_alloc | apply Kd.R_drewN | apply Kd.R_drew)); exact Kd.R_mono HO391.out (fun _ hk => trivial)⟩, ⟨by repeat (first | (with_reducible first | exact HB.out | apply below_alloc | apply pw_below_drewN | apply below_drew1) | exact HB.out)⟩⟩
      · replace c13 := Bool.eq_false_iff.mpr c13
        subst c13
        have H1 : (laws_FnGraphLed.j0 k t386 t387 true) = some r := by rw [if_neg (show ¬ (false = true) by decide)] at H; exact H
        clear H
        have H := H1
        clear H1
        have H' := Aside0.mk H
        clear H
        obtain ⟨Ao19, co19, eo19⟩ := Kd.S_slice HO389.out
        subst eo19
        obtain ⟨Ao20, co20, eo20⟩ := Kd.S_slice HO395.out
        subst eo20
        go_wp2_with (first | ((with_reducible refine gate_callee (f := 30) rfl ?_); refine goesL_ (some 36) rfl rfl Try.func30 (by kernel_rfl) rfl #[.slice Ao19 t386.length co19, .slice Ao20 t392.length co20] rfl (by (try simp only [List.map_toArray, List.map_cons, List.map_nil]); first | done | rfl | (simp only [List.length_drop, List.length_take]; rfl)) ?_; (with_reducible refine (laws_leObjs.calls k _ _ t386 _ _ t392 false _ ?side1 ?side2 ?side3 ?side4 A12.out).mono ?_); (case side1 => repeat (first | exact (Kd.S_reads' HO389.out).2.2 | (with_reducible refine Kd.C_alloc ?_ _) | (with_reducible refine Kd.C_drewN ?_ _) | (with_reducible refine Kd.C_drew ?_))); (case side2 => exact (Kd.S_reads' HO389.out).2.1); (case side3 => repeat (first | exact (Kd.S_reads' HO395.out).2.2 | (with_reducible refine Kd.C_alloc ?_ _) | (with_reducible refine Kd.C_drewN ?_ _) | (with_reducible refine Kd.C_drew ?_))); (case side4 => exact (Kd.S_reads' HO395.out).2.1); rintro e w' ⟨rfl, ⟨nd, rfl⟩⟩; refine ⟨_, rfl, ?_⟩))
        go_meet
        case rel => exact ⟨_, (true), (by first | rfl | (simp; done) | (simp [*]; done)), H', ⟨by first | omega | exact Nat.le_refl _⟩, ⟨by (with_reducible repeat (first | apply Kd.S_alloc | apply Kd.S_drewN | apply Kd.S_drew)); exact Kd.S_mono HO389.out (fun _ hk => hk.1.1.1.1)⟩, ⟨by (with_reducible repeat (first | apply Kd.R_alloc | apply Kd.R_drewN | apply Kd.R_drew)); exact Kd.R_mono HO391.out (fun _ hk => trivial)⟩, ⟨by repeat (first | (with_reducible first | exact HB.out | apply below_alloc | apply pw_below_drewN | apply below_drew1) | exact HB.out)⟩⟩
    case rest =>
      clear HC6
      try clear c1
      try clear c2
      try clear c2b0
      try clear c2b1
      try clear p2
      try clear c3
      try clear c8
      try clear c13
      obtain ⟨kq, x43_5, rfl, HA, HJ5, HO_5, HO_6, HB⟩ := hcut
      cases kq with
      | zero => exact absurd HA.out (by simp [laws_FnGraphLed.j0])
      | succ kj5 =>
        have H := HA.out
        clear HA
        simp only [laws_FnGraphLed.j0] at H
        by_cases c21 : x43_5 = true
        · subst c21
          have H1 : (some false) = some r := by rw [if_pos rfl] at H; exact H
          clear H
          have H := H1
          clear H1
          obtain rfl := Option.some.inj H
          exact absurd hr_ (by decide)
        · replace c21 := Bool.eq_false_iff.mpr c21
          subst c21
          have H1 : (laws_FnGraphLed.l0 kj5 t386 t387 0 0) = some r := by rw [if_neg (show ¬ (false = true) by decide)] at H; exact H
          clear H
          have H := H1
          clear H1
          have H' := Aside0.mk H
          clear H
          go_wp2
          go_loopg [9, 10] kj5 (fun kq v9 v10 w' => ∃ (x9_2 : Int) (x10_2 : Int), v9 = .int .i64 x9_2 ∧ v10 = .int .i64 x10_2 ∧ Aside0 (laws_FnGraphLed.l0 kq t386 t387 x9_2 x10_2 = some r) ∧ Aside0 (kq ≤ kj5) ∧ Aside0 (Kd.S k48 48 w' w.heap.size (fun k_ => some k_ ≠ (v390 : Value).ownBlock) v388 t386) ∧ Aside0 (Kd.R k46 46 w' w.heap.size (fun _ => True) v390 t387) ∧ Aside0 (Below w.heap.size w w'))
          case atStart => exact ⟨(0), (0), (by first | rfl | (simp; done) | (simp [*]; done)), (by first | rfl | (simp; done) | (simp [*]; done)), H', ⟨Nat.le_refl _⟩, ⟨by (with_reducible repeat (first | apply Kd.S_alloc | apply Kd.S_drewN | apply Kd.S_drew)); exact HO_5.out⟩, ⟨by (with_reducible repeat (first | apply Kd.R_alloc | apply Kd.R_drewN | apply Kd.R_drew)); exact HO_6.out⟩, ⟨by repeat (first | (with_reducible first | exact HB.out | apply below_alloc | apply pw_below_drewN | apply below_drew1) | exact HB.out)⟩⟩
          case round =>
            clear H'
            try clear c1
            try clear c2
            try clear c2b0
            try clear c2b1
            try clear p2
            try clear c3
            try clear c8
            try clear c13
            try clear c21
            try clear p2
            obtain ⟨x9_2, x10_2, rfl, rfl, HA, HK2, HO_5, HO_6, HB⟩ := hrel
            cases gk with
            | zero => exact absurd HA.out (by simp [laws_FnGraphLed.l0])
            | succ k2 =>
              have H := HA.out
              clear HA
              simp only [laws_FnGraphLed.l0] at H
              by_cases c22 : x10_2 < (t387.length : Int)
              · rw [if_pos c22] at H
                have c22b0 : decide (x10_2 < (t387.length : Int)) = true := decide_eq_true c22
                clear c22
                have HC23 := Aside0.mk H
                clear H
                obtain ⟨Ao24, co24, eo24⟩ := Kd.R_slice HO_6.out
                subst eo24
                go_upto_region 12 with (fail)
                go_cut [64] (fun v64 wc => ∃ (kq : Nat) (x64_22 : Bool), v64 = .bool x64_22 ∧ Aside0 (laws_FnGraphLed.j2 kq t386 t387 x9_2 x10_2 x64_22 = some r) ∧ Aside0 (kq ≤ k2) ∧ Aside0 (Kd.S k48 48 wc w.heap.size (fun k_ => some k_ ≠ ((.slice Ao24 t387.length co24) : Value).ownBlock) v388 t386) ∧ Aside0 (Kd.R k46 46 wc w.heap.size (fun _ => True) (.slice Ao24 t387.length co24) t387) ∧ Aside0 (Below w.heap.size w wc))
                case first =>
                  have H := HC23.out
                  clear HC23
                  by_cases c25 : 0 ≤ x10_2
                  · rw [if_pos c25] at H
                    have c25b0 : decide (0 ≤ x10_2) = true := decide_eq_true c25
                    clear c25
                    (first | rw [c25b0] | (simp only [i64_w, i32_w]; rw [c25b0]) | skip)
                    obtain ⟨bq26, hbq26⟩ : ∃ b_ : Bool, b_ = ((rd_T46 t387 x10_2).f0) := ⟨_, rfl⟩
                    replace H : (if bq26 = true then (laws_FnGraphLed.j2 k2 t386 t387 x9_2 x10_2 (decide (((rd_T46 t387 x10_2).f1) > (wrap64 (x9_2 + 1))))) else (laws_FnGraphLed.j2 k2 t386 t387 x9_2 x10_2 false)) = some r := by rw [← hbq26] at H; exact H
                    have Nbq26 := Aside0.mk hbq26
                    clear hbq26
                    by_cases c27 : bq26 = true
                    · subst c27
                      have H1 : (laws_FnGraphLed.j2 k2 t386 t387 x9_2 x10_2 (decide (((rd_T46 t387 x10_2).f1) > (wrap64 (x9_2 + 1))))) = some r := by rw [if_pos rfl] at H; exact H
                      clear H
                      have H := H1
                      clear H1
                      have H' := Aside0.mk H
                      clear H
                      have p400 : 0 ≤ (x10_2 : Int) := of_decide_eq_true (by first | (with_reducible assumption) | assumption)
                      have q400 : x10_2 < (t387.length : Int) := of_decide_eq_true (by first | (with_reducible assumption) | assumption)
                      obtain ⟨ad400, e400, hx400_0, hx400_1⟩ := at_T46 (Kd.R_reads' HO_6.out).2.2 x10_2 p400 q400
                      (try rw [← Nbq26.out] at hx400_0)
                      cases e400
                      replace p400 := eq_true p400
                      replace q400 := eq_true q400
                      have p401 : 0 ≤ (x10_2 : Int) := of_decide_eq_true (by first | (with_reducible assumption) | assumption)
                      have q401 : x10_2 < (t387.length : Int) := of_decide_eq_true (by first | (with_reducible assumption) | assumption)
                      obtain ⟨ad401, e401, hx401_0, hx401_1⟩ := at_T46 (Kd.R_reads' HO_6.out).2.2 x10_2 p401 q401
                      (try rw [← Nbq26.out] at hx401_0)
                      obtain rfl : ad400 = ad401 := (by injection e401)
                      replace p401 := eq_true p401
                      replace q401 := eq_true q401
                      go_wp2
                      go_meet
                      case rel => exact ⟨_, (decide (((rd_T46 t387 x10_2).f1) > (wrap64 (x9_2 + 1)))), (by first | rfl | (simp; done) | (simp [*]; done)), H', ⟨by have := HJ5.out; have := HK2.out; first | omega | exact Nat.le_refl _⟩, ⟨by (with_reducible repeat (first | apply Kd.S_alloc | apply Kd.S_drewN | apply Kd.S_drew)); exact HO_5.out⟩, ⟨by (with_reducible repeat (first | apply Kd.R_alloc | apply Kd.R_drewN | apply Kd.R_drew)); exact HO_6.out⟩, ⟨by repeat (first | (with_reducible first | exact HB.out | apply below_alloc | apply pw_below_drewN | apply below_drew1) | exact HB.out)⟩⟩
                    · replace c27 := Bool.eq_false_iff.mpr c27
                      subst c27
                      have H1 : (laws_FnGraphLed.j2 k2 t386 t387 x9_2 x10_2 false) = some r := by rw [if_neg (show ¬ (false = true) by decide)] at H; exact H
                      clear H
                      have H := H1
                      clear H1
                      have H' := Aside0.mk H
                      clear H
                      have p400 : 0 ≤ (x10_2 : Int) := of_decide_eq_true (by first | (with_reducible assumption) | assumption)
                      have q400 : x10_2 < (t387.length : Int) := of_decide_eq_true (by first | (with_reducible assumption) | assumption)
                      obtain ⟨ad400, e400, hx400_0, hx400_1⟩ := at_T46 (Kd.R_reads' HO_6.out).2.2 x10_2 p400 q400
                      (try rw [← Nbq26.out] at hx400_0)
                      cases e400
                      replace p400 := eq_true p400
                      replace q400 := eq_true q400
                      go_wp2
                      go_meet
                      case rel => exact ⟨_, (false), (by first | rfl | (simp; done) | (simp [*]; done)), H', ⟨by have := HJ5.out; have := HK2.out; first | omega | exact Nat.le_refl _⟩, ⟨by (with_reducible repeat (first | apply Kd.S_alloc | apply Kd.S_drewN | apply Kd.S_drew)); exact HO_5.out⟩, ⟨by (with_reducible repeat (first | apply Kd.R_alloc | apply Kd.R_drewN | apply Kd.R_drew)); exact HO_6.out⟩, ⟨by repeat (first | (with_reducible first | exact HB.out | apply below_alloc | apply pw_below_drewN | apply below_drew1) | exact HB.out)⟩⟩
                  · rw [if_neg c25] at H
                    exact absurd H (by simp)
                case rest =>
                  clear HC23
                  try clear c1
                  try clear c2
                  try clear c2b0
                  try clear c2b1
                  try clear p2
                  try clear q2
                  try clear c3
                  try clear p4
                  try clear q4
                  try clear hx4
                  try clear p6
                  try clear c8
                  try clear c13
                  try clear c21
                  try clear c22
                  try clear c22b0
                  try clear c23
                  try clear c24
                  try clear c25
                  try clear c25b0
                  try clear q26
                  try clear c27
                  try clear hx400_0
                  try clear hx400_1
                  try clear hx401_0
                  try clear hx401_1
                  try clear p2
                  try clear p400
                  try clear p401
                  try clear q400
                  try clear q401
                  obtain ⟨kq, x64_22, rfl, HA, HJ22, HO_5, HO_6, HB⟩ := hcut
                  cases kq with
                  | zero => exact absurd HA.out (by simp [laws_FnGraphLed.j2])
                  | succ kj22 =>
                    have H := HA.out
                    clear HA
                    simp only [laws_FnGraphLed.j2] at H
                    by_cases c28 : x64_22 = true
                    · subst c28
                      have H1 : (some false) = some r := by rw [if_pos rfl] at H; exact H
                      clear H
                      have H := H1
                      clear H1
                      obtain rfl := Option.some.inj H
                      exact absurd hr_ (by decide)
                    · replace c28 := Bool.eq_false_iff.mpr c28
                      subst c28
                      have H1 : (if 0 ≤ x10_2 then (if x10_2 < (t387.length : Int) then (if (rd_T46 t387 x10_2).f0 = true then (laws_FnGraphLed.l0 kj22 t386 t387 (mx x9_2 ((rd_T46 t387 x10_2).f1)) (wrap64 (x10_2 + 1))) else (laws_FnGraphLed.l0 kj22 t386 t387 x9_2 (wrap64 (x10_2 + 1)))) else (none)) else (none)) = some r := by rw [if_neg (show ¬ (false = true) by decide)] at H; exact H
                      clear H
                      have H := H1
                      clear H1
                      by_cases c29 : 0 ≤ x10_2
                      · rw [if_pos c29] at H
                        have c29b0 : decide (0 ≤ x10_2) = true := decide_eq_true c29
                        clear c29
                        by_cases c30 : x10_2 < (t387.length : Int)
                        · rw [if_pos c30] at H
                          have c30b0 : decide (x10_2 < (t387.length : Int)) = true := decide_eq_true c30
                          clear c30
                          obtain ⟨bq31, hbq31⟩ : ∃ b_ : Bool, b_ = ((rd_T46 t387 x10_2).f0) := ⟨_, rfl⟩
                          replace H : (if bq31 = true then (laws_FnGraphLed.l0 kj22 t386 t387 (mx x9_2 ((rd_T46 t387 x10_2).f1)) (wrap64 (x10_2 + 1))) else (laws_FnGraphLed.l0 kj22 t386 t387 x9_2 (wrap64 (x10_2 + 1)))) = some r := by rw [← hbq31] at H; exact H
                          have Nbq31 := Aside0.mk hbq31
                          clear hbq31
                          by_cases c32 : bq31 = true
                          · subst c32
                            have H1 : (laws_FnGraphLed.l0 kj22 t386 t387 (mx x9_2 ((rd_T46 t387 x10_2).f1)) (wrap64 (x10_2 + 1))) = some r := by rw [if_pos rfl] at H; exact H
                            clear H
                            have H := H1
                            clear H1
                            obtain ⟨ji33, hji33⟩ : ∃ j_ : Int, (mx x9_2 ((rd_T46 t387 x10_2).f1)) = j_ := ⟨_, rfl⟩
                            replace H : (laws_FnGraphLed.l0 kj22 t386 t387 ji33 (wrap64 (x10_2 + 1))) = some r := by first | (rw [hji33] at H; exact H) | (simp only [hji33] at H ⊢; exact H)
                            have hji33_ : (if x9_2 < ((rd_T46 t387 x10_2).f1) then ((rd_T46 t387 x10_2).f1) else x9_2) = ji33 := hji33
                            have H' := Aside0.mk H
                            clear H
                            have p402 : 0 ≤ (x10_2 : Int) := of_decide_eq_true (by first | (with_reducible assumption) | assumption)
                            have q402 : x10_2 < (t387.length : Int) := of_decide_eq_true (by first | (with_reducible assumption) | assumption)
                            obtain ⟨ad402, e402, hx402_0, hx402_1⟩ := at_T46 (Kd.R_reads' HO_6.out).2.2 x10_2 p402 q402
                            (try rw [← Nbq31.out] at hx402_0)
                            cases e402
                            replace p402 := eq_true p402
                            replace q402 := eq_true q402
                            have p403 : 0 ≤ (x10_2 : Int) := of_decide_eq_true (by first | (with_reducible assumption) | assumption)
                            have q403 : x10_2 < (t387.length : Int) := of_decide_eq_true (by first | (with_reducible assumption) | assumption)
                            obtain ⟨ad403, e403, hx403_0, hx403_1⟩ := at_T46 (Kd.R_reads' HO_6.out).2.2 x10_2 p403 q403
                            (try rw [← Nbq31.out] at hx403_0)
                            obtain rfl : ad402 = ad403 := (by injection e403)
                            replace p403 := eq_true p403
                            replace q403 := eq_true q403
                            go_wp2
                            go_roundg kj22
                            case measure => have := HJ5.out; have := HK2.out; have := HJ22.out; omega
                            case rel => exact ⟨(ji33), (wrap64 (x10_2 + 1)), (by first | rfl | (simp; done) | (simp only [← hji33] <;> (first | rfl | simp)) | (simp [*]; done)), (by first | rfl | (simp; done) | (simp [*]; done)), H', ⟨by have := HJ5.out; have := HK2.out; have := HJ22.out; omega⟩, ⟨by (with_reducible repeat (first | apply Kd.S_alloc | apply Kd.S_drewN | apply Kd.S_drew)); exact HO_5.out⟩, ⟨by (with_reducible repeat (first | apply Kd.R_alloc | apply Kd.R_drewN | apply Kd.R_drew)); exact HO_6.out⟩, ⟨by repeat (first | (with_reducible first | exact HB.out | apply below_alloc | apply pw_below_drewN | apply below_drew1) | exact HB.out)⟩⟩
                          · replace c32 := Bool.eq_false_iff.mpr c32
                            subst c32
                            have H1 : (laws_FnGraphLed.l0 kj22 t386 t387 x9_2 (wrap64 (x10_2 + 1))) = some r := by rw [if_neg (show ¬ (false = true) by decide)] at H; exact H
                            clear H
                            have H := H1
                            clear H1
                            have H' := Aside0.mk H
                            clear H
                            have p402 : 0 ≤ (x10_2 : Int) := of_decide_eq_true (by first | (with_reducible assumption) | assumption)
                            have q402 : x10_2 < (t387.length : Int) := of_decide_eq_true (by first | (with_reducible assumption) | assumption)
                            obtain ⟨ad402, e402, hx402_0, hx402_1⟩ := at_T46 (Kd.R_reads' HO_6.out).2.2 x10_2 p402 q402
                            (try rw [← Nbq31.out] at hx402_0)
                            cases e402
                            replace p402 := eq_true p402
                            replace q402 := eq_true q402
                            go_wp2
                            go_roundg kj22
                            case measure => have := HJ5.out; have := HK2.out; have := HJ22.out; omega
                            case rel => exact ⟨(x9_2), (wrap64 (x10_2 + 1)), (by first | rfl | (simp; done) | (simp [*]; done)), (by first | rfl | (simp; done) | (simp [*]; done)), H', ⟨by have := HJ5.out; have := HK2.out; have := HJ22.out; omega⟩, ⟨by (with_reducible repeat (first | apply Kd.S_alloc | apply Kd.S_drewN | apply Kd.S_drew)); exact HO_5.out⟩, ⟨by (with_reducible repeat (first | apply Kd.R_alloc | apply Kd.R_drewN | apply Kd.R_drew)); exact HO_6.out⟩, ⟨by repeat (first | (with_reducible first | exact HB.out | apply below_alloc | apply pw_below_drewN | apply below_drew1) | exact HB.out)⟩⟩
                        · rw [if_neg c30] at H
                          exact absurd H (by simp)
                      · rw [if_neg c29] at H
                        exact absurd H (by simp)
              · rw [if_neg c22] at H
                have c22b0 : decide (x10_2 < (t387.length : Int)) = false := decide_eq_false c22
                clear c22
                have H' := Aside0.mk H
                clear H
                obtain ⟨Ao34, co34, eo34⟩ := Kd.R_slice HO_6.out
                subst eo34
                go_wp2
                go_loopg [9, 11] k2 (fun kq v9 v11 w' => ∃ (x9_3 : Int) (x11_3 : Int), v9 = .int .i64 x9_3 ∧ v11 = .int .i64 x11_3 ∧ Aside0 (laws_FnGraphLed.l1 kq t386 x9_3 x11_3 = some r) ∧ Aside0 (kq ≤ k2) ∧ Aside0 (Kd.S k48 48 w' w.heap.size (fun _ => True) v388 t386) ∧ Aside0 (Below w.heap.size w w'))
                case atStart => exact ⟨(x9_2), (0), (by first | rfl | (simp; done) | (simp [*]; done)), (by first | rfl | (simp; done) | (simp [*]; done)), H', ⟨Nat.le_refl _⟩, ⟨by (with_reducible repeat (first | apply Kd.S_alloc | apply Kd.S_drewN | apply Kd.S_drew)); exact Kd.S_mono HO_5.out (fun _ hk => trivial)⟩, ⟨by repeat (first | (with_reducible first | exact HB.out | apply below_alloc | apply pw_below_drewN | apply below_drew1) | exact HB.out)⟩⟩
                case round =>
                  clear H'
                  try clear c1
                  try clear c2
                  try clear c2b0
                  try clear c2b1
                  try clear p2
                  try clear q2
                  try clear c3
                  try clear q3
                  try clear p4
                  try clear q4
                  try clear hx4
                  try clear p6
                  try clear c8
                  try clear c13
                  try clear c21
                  try clear c22
                  try clear c22b0
                  try clear c23
                  try clear c24
                  try clear c25
                  try clear c25b0
                  try clear q26
                  try clear c27
                  try clear c28
                  try clear c29
                  try clear c29b0
                  try clear c30
                  try clear c30b0
                  try clear q31
                  try clear c32
                  try clear hx400_0
                  try clear hx400_1
                  try clear hx401_0
                  try clear hx401_1
                  try clear hx402_0
                  try clear hx402_1
                  try clear hx403_0
                  try clear hx403_1
                  try clear p2
                  try clear p4
                  try clear p400
                  try clear p401
                  try clear p402
                  try clear p403
                  try clear p6
                  try clear q2
                  try clear q26
                  try clear q4
                  try clear q400
                  try clear q401
                  try clear q402
                  try clear q403
                  obtain ⟨x9_3, x11_3, rfl, rfl, HA, HK3, HO_5, HB⟩ := hrel
                  cases gk with
                  | zero => exact absurd HA.out (by simp [laws_FnGraphLed.l1])
                  | succ k3 =>
                    have H := HA.out
                    clear HA
                    simp only [laws_FnGraphLed.l1] at H
                    by_cases c35 : x11_3 < (t386.length : Int)
                    · rw [if_pos c35] at H
                      have c35b0 : decide (x11_3 < (t386.length : Int)) = true := decide_eq_true c35
                      clear c35
                      by_cases c36 : x11_3 ≥ x9_3
                      · rw [if_pos c36] at H
                        have c36b0 : decide (x9_3 ≤ x11_3) = true := decide_eq_true c36
                        clear c36
                        obtain rfl := Option.some.inj H
                        exact absurd hr_ (by decide)
                      · rw [if_neg c36] at H
                        have c36b0 : decide (x9_3 ≤ x11_3) = false := decide_eq_false c36
                        clear c36
                        have H' := Aside0.mk H
                        clear H
                        obtain ⟨Ao37, co37, eo37⟩ := Kd.S_slice HO_5.out
                        subst eo37
                        go_wp2
                        go_loopg [9, 12] k3 (fun kq v9 v12 w' => ∃ (x9_4 : Int) (x12_4 : Int), v9 = .int .i64 x9_4 ∧ v12 = .int .i64 x12_4 ∧ Aside0 (laws_FnGraphLed.l2 kq t386 x9_4 x11_3 x12_4 = some r) ∧ Aside0 (kq ≤ k3) ∧ Aside0 (Kd.S k48 48 w' w.heap.size (fun _ => True) (.slice Ao37 t386.length co37) t386) ∧ Aside0 (Below w.heap.size w w'))
                        case atStart => exact ⟨(x9_3), (0), (by first | rfl | (simp; done) | (simp [*]; done)), (by first | rfl | (simp; done) | (simp [*]; done)), H', ⟨Nat.le_refl _⟩, ⟨by (with_reducible repeat (first | apply Kd.S_alloc | apply Kd.S_drewN | apply Kd.S_drew)); exact HO_5.out⟩, ⟨by repeat (first | (with_reducible first | exact HB.out | apply below_alloc | apply pw_below_drewN | apply below_drew1) | exact HB.out)⟩⟩
                        case round =>
                          clear H'
                          try clear c1
                          try clear c2
                          try clear c2b0
                          try clear c2b1
                          try clear p2
                          try clear q2
                          try clear c3
                          try clear q3
                          try clear p4
                          try clear q4
                          try clear hx4
                          try clear p6
                          try clear c8
                          try clear c13
                          try clear c21
                          try clear c22
                          try clear c22b0
                          try clear c23
                          try clear c24
                          try clear c25
                          try clear c25b0
                          try clear q26
                          try clear c27
                          try clear c28
                          try clear c29
                          try clear c29b0
                          try clear c30
                          try clear c30b0
                          try clear q31
                          try clear c32
                          try clear c35
                          try clear c35b0
                          try clear c36
                          try clear c36b0
                          try clear hx400_0
                          try clear hx400_1
                          try clear hx401_0
                          try clear hx401_1
                          try clear hx402_0
                          try clear hx402_1
                          try clear hx403_0
                          try clear hx403_1
                          try clear p2
                          try clear p4
                          try clear p400
                          try clear p401
                          try clear p402
                          try clear p403
                          try clear p6
                          try clear q2
                          try clear q26
                          try clear q3
                          try clear q31
                          try clear q4
                          try clear q400
                          try clear q401
                          try clear q402
                          try clear q403
                          obtain ⟨x9_4, x12_4, rfl, rfl, HA, HK4, HO_5, HB⟩ := hrel
                          cases gk with
                          | zero => exact absurd HA.out (by simp [laws_FnGraphLed.l2])
                          | succ k4 =>
                            have H := HA.out
                            clear HA
                            simp only [laws_FnGraphLed.l2] at H
                            by_cases c38 : 0 ≤ x11_3
                            · rw [if_pos c38] at H
                              have c38b0 : decide (0 ≤ x11_3) = true := decide_eq_true c38
                              clear c38
                              by_cases c39 : x11_3 < (t386.length : Int)
                              · rw [if_pos c39] at H
                                have c39b0 : decide (x11_3 < (t386.length : Int)) = true := decide_eq_true c39
                                clear c39
                                by_cases c40 : x12_4 < (((rd_T48 t386 x11_3).f1).length : Int)
                                · rw [if_pos c40] at H
                                  have c40b0 : decide (x12_4 < (((rd_T48 t386 x11_3).f1).length : Int)) = true := decide_eq_true c40
                                  clear c40
                                  by_cases c41 : 0 ≤ x12_4
                                  · rw [if_pos c41] at H
                                    have c41b0 : decide (0 ≤ x12_4) = true := decide_eq_true c41
                                    clear c41
                                    have HC42 := Aside0.mk H
                                    clear H
                                    have p404 : 0 ≤ (x11_3 : Int) := of_decide_eq_true (by first | (with_reducible assumption) | assumption)
                                    have q404 : x11_3 < (t386.length : Int) := of_decide_eq_true (by first | (with_reducible assumption) | assumption)
                                    obtain ⟨ad404, A404_1, c404_1, e404, hx404_0, hx404_1, hl404_1, hi404_1⟩ := at_T48 (Kd.S_reads' HO_5.out).2.2 x11_3 p404 q404
                                    cases e404
                                    obtain ⟨ce404, hce404, hMe404, hcc404⟩ := Kd.S_get HO_5.out z48 x11_3 p404 (by first | exact q404 | exact of_decide_eq_true (by first | (with_reducible assumption) | assumption) | (have e_ := (Kd.S_reads' HO_5.out).1; omega))
                                    obtain ⟨ve404_1, rfl, ge404_1⟩ := k48_openM hMe404
                                    have hv404_1 := hcc404 1 _ rfl
                                    rw [add_field _ _ 1 (by omega)] at hv404_1
                                    replace hv404_1 := Option.some.inj (hv404_1.symm.trans hx404_1)
                                    rw [hv404_1] at ge404_1
                                    have HL404_1 := Aside0.mk (show Kd.R k46 46 _ _ _ _ ((rd_T48 t386 x11_3).f1) from ge404_1)
                                    clear hv404_1 ge404_1
                                    clear hcc404 hce404
                                    have HR404_1 := Aside0.mk hi404_1
                                    have HC404_1 := Aside0.mk hl404_1
                                    clear hi404_1 hl404_1
                                    replace p404 := eq_true p404
                                    replace q404 := eq_true q404
                                    have p405 : 0 ≤ (x11_3 : Int) := of_decide_eq_true (by first | (with_reducible assumption) | assumption)
                                    have q405 : x11_3 < (t386.length : Int) := of_decide_eq_true (by first | (with_reducible assumption) | assumption)
                                    obtain ⟨ad405, A405_1, c405_1, e405, hx405_0, hx405_1, hl405_1, hi405_1⟩ := at_T48 (Kd.S_reads' HO_5.out).2.2 x11_3 p405 q405
                                    obtain rfl : ad404 = ad405 := (by injection e405)
                                    obtain ⟨ce405, hce405, hMe405, hcc405⟩ := Kd.S_get HO_5.out z48 x11_3 p405 (by first | exact q405 | exact of_decide_eq_true (by first | (with_reducible assumption) | assumption) | (have e_ := (Kd.S_reads' HO_5.out).1; omega))
                                    obtain ⟨ve405_1, rfl, ge405_1⟩ := k48_openM hMe405
                                    have hv405_1 := hcc405 1 _ rfl
                                    rw [add_field _ _ 1 (by omega)] at hv405_1
                                    replace hv405_1 := Option.some.inj (hv405_1.symm.trans hx405_1)
                                    rw [hv405_1] at ge405_1
                                    have HL405_1 := Aside0.mk (show Kd.R k46 46 _ _ _ _ ((rd_T48 t386 x11_3).f1) from ge405_1)
                                    clear hv405_1 ge405_1
                                    clear hcc405 hce405
                                    have HR405_1 := Aside0.mk hi405_1
                                    have HC405_1 := Aside0.mk hl405_1
                                    clear hi405_1 hl405_1
                                    replace p405 := eq_true p405
                                    replace q405 := eq_true q405
                                    have ea_ := Option.some.inj (hx404_1.symm.trans hx405_1)
                                    injection ea_ with ea_ en_ ec_
                                    subst ea_
                                    subst ec_
                                    clear en_
                                    have p406 : 0 ≤ (x12_4 : Int) := of_decide_eq_true (by first | (with_reducible assumption) | assumption)
                                    have q406 : x12_4 < (((rd_T48 t386 x11_3).f1).length : Int) := of_decide_eq_true (by first | (with_reducible assumption) | assumption)
                                    obtain ⟨ad406, e406, hx406_0, hx406_1⟩ := at_T46 (by repeat (first | (with_reducible exact HR405_1.out) | (with_reducible refine Kd.C_alloc ?_ _) | (with_reducible refine Kd.C_drewN ?_ _) | (with_reducible refine Kd.C_drew ?_) | exact HR405_1.out)) x12_4 p406 q406
                                    cases e406
                                    replace p406 := eq_true p406
                                    replace q406 := eq_true q406
                                    go_upto_region 25 with (first | ((with_reducible refine gate_dst (N := 13) rfl ?_); refine box_event ?hg (N := 13) ?hd (cs := #[.bool false, .int .i64 0]) (t := 46) ?hr ?_; (case hd => rfl); (case hg => rfl); (case hr => first | (go_simp; done) | (go_simp; rfl)); intro gb407 hg w43 hbox hb; have n0_ := Aside0.mk (Kd.S_below (Kd.S_elderB (by (with_reducible repeat (first | apply Kd.S_alloc | apply Kd.S_drewN | apply Kd.S_drew)); exact HO_5.out) gb407 (Nat.le_of_eq hg.symm)) hb); have n1_ := Aside0.mk (Kd.R_below (Kd.R_elderB (by (with_reducible repeat (first | apply Kd.R_alloc | apply Kd.R_drewN | apply Kd.R_drew)); exact HL404_1.out) gb407 (Nat.le_of_eq hg.symm)) hb); have n2_ := Aside0.mk (Kd.R_below (Kd.R_elderB (by (with_reducible repeat (first | apply Kd.R_alloc | apply Kd.R_drewN | apply Kd.R_drew)); exact HL405_1.out) gb407 (Nat.le_of_eq hg.symm)) hb); have n3_ := Aside0.mk (Kd.C_below (by repeat (first | (with_reducible exact HR404_1.out) | (with_reducible refine Kd.C_alloc ?_ _) | (with_reducible refine Kd.C_drewN ?_ _) | (with_reducible refine Kd.C_drew ?_) | exact HR404_1.out)) hb); have n4_ := Aside0.mk (Kd.C_below (by repeat (first | (with_reducible exact HR405_1.out) | (with_reducible refine Kd.C_alloc ?_ _) | (with_reducible refine Kd.C_drewN ?_ _) | (with_reducible refine Kd.C_drew ?_) | exact HR405_1.out)) hb); have n5_ := Aside0.mk (below_step (by repeat (first | (with_reducible first | exact HB.out | apply below_alloc | apply pw_below_drewN | apply below_drew1) | exact HB.out)) hb); have n6_ := Aside0.mk (hbox); have n7_ := Aside0.mk ((by rw [hg]; exact (below_size (by repeat (first | (with_reducible first | exact HB.out | apply below_alloc | apply pw_below_drewN | apply below_drew1) | exact HB.out))) : w.heap.size ≤ gb407)); have n8_ := Aside0.mk ((by rw [hg]; exact (below_size (by repeat (first | (with_reducible first | exact HB.out | apply below_alloc | apply pw_below_drewN | apply below_drew1) | exact HB.out))) : w.heap.size ≤ gb407)); clear HO_5; clear HL404_1; clear HL405_1; clear HR404_1; clear HR405_1; clear HB; have HO_5 := n0_; have HL404_1 := n1_; have HL405_1 := n2_; have HR404_1 := n3_; have HR405_1 := n4_; have HB := n5_; have BK407 := n6_; have GW407 := n7_; have GE407 := n8_; clear n0_ n1_ n2_ n3_ n4_ n5_ n6_ n7_ n8_; clear hb hbox hg; have hcz44_0 : w43.cell? ⟨gb407, 0, none⟩ = some (.bool false) := (blk_cell BK407.out 0).trans rfl; have hcz44_1 : w43.cell? ⟨gb407, 1, none⟩ = some (.int .i64 0) := (blk_cell BK407.out 1).trans rfl; have hfz44_0 := blk_frozen BK407.out 0; have hfz44_1 := blk_frozen BK407.out 1))
                                    (try simp only [Act.put, List.setIfInBounds_toArray, List.set_cons_zero, List.set_cons_succ])
                                    go_cut [112] (fun v112 wc => ∃ (kq : Nat) (x112_41 : Bool), v112 = .bool x112_41 ∧ Aside0 (laws_FnGraphLed.j5 kq t386 x9_4 x11_3 x12_4 x112_41 ((rd_T46 ((rd_T48 t386 x11_3).f1) x12_4).f0) ((rd_T46 ((rd_T48 t386 x11_3).f1) x12_4).f1) = some r) ∧ Aside0 (kq ≤ k4) ∧ Aside0 (Kd.S k48 48 wc w.heap.size (fun k_ => k_ ≠ gb407) (.slice (some ad404) t386.length co37) t386) ∧ Aside0 (wc.heap[gb407]? = some (.cells #[.bool ((rd_T46 ((rd_T48 t386 x11_3).f1) x12_4).f0), .int .i64 ((rd_T46 ((rd_T48 t386 x11_3).f1) x12_4).f1)] 46 (0, 0))) ∧ Aside0 (Kd.C k46 wc (some ad406) ((rd_T48 t386 x11_3).f1).length ((rd_T48 t386 x11_3).f1)) ∧ Aside0 (Kd.C k46 wc (some ad406) ((rd_T48 t386 x11_3).f1).length ((rd_T48 t386 x11_3).f1)) ∧ Aside0 (Below w.heap.size w wc))
                                    case first =>
                                      have H := HC42.out
                                      clear HC42
                                      obtain ⟨bq45, hbq45⟩ : ∃ b_ : Bool, b_ = ((rd_T46 ((rd_T48 t386 x11_3).f1) x12_4).f0) := ⟨_, rfl⟩
                                      replace H : (if bq45 = true then (laws_FnGraphLed.j5 k4 t386 x9_4 x11_3 x12_4 (decide (((rd_T46 ((rd_T48 t386 x11_3).f1) x12_4).f1) > (wrap64 (x9_4 + 1)))) bq45 ((rd_T46 ((rd_T48 t386 x11_3).f1) x12_4).f1)) else (laws_FnGraphLed.j5 k4 t386 x9_4 x11_3 x12_4 false bq45 ((rd_T46 ((rd_T48 t386 x11_3).f1) x12_4).f1))) = some r := by rw [← hbq45] at H; exact H
                                      have Nbq45 := Aside0.mk hbq45
                                      clear hbq45
                                      (try rw [← Nbq45.out])
                                      by_cases c46 : bq45 = true
                                      · subst c46
                                        have H1 : (laws_FnGraphLed.j5 k4 t386 x9_4 x11_3 x12_4 (decide (((rd_T46 ((rd_T48 t386 x11_3).f1) x12_4).f1) > (wrap64 (x9_4 + 1)))) true ((rd_T46 ((rd_T48 t386 x11_3).f1) x12_4).f1)) = some r := by rw [if_pos rfl] at H; exact H
                                        clear H
                                        have H := H1
                                        clear H1
                                        have H' := Aside0.mk H
                                        clear H
                                        have hcz47_0 : w43.cell? ⟨gb407, 0, none⟩ = some (.bool false) := (blk_cell BK407.out 0).trans rfl
                                        have hcz47_1 : w43.cell? ⟨gb407, 1, none⟩ = some (.int .i64 0) := (blk_cell BK407.out 1).trans rfl
                                        have hfz47_0 := blk_frozen BK407.out 0
                                        have hfz47_1 := blk_frozen BK407.out 1
                                        go_wp2
                                        go_meet
                                        case rel => exact ⟨_, (decide (((rd_T46 ((rd_T48 t386 x11_3).f1) x12_4).f1) > (wrap64 (x9_4 + 1)))), (by first | rfl | (simp; done) | (simp [*]; done)), ⟨by rw [← Nbq45.out]; exact H'.out⟩, ⟨by have := HJ5.out; have := HK2.out; have := HK3.out; have := HK4.out; first | omega | exact Nat.le_refl _⟩, ⟨by (with_reducible repeat (first | apply Kd.S_alloc | apply Kd.S_drewN | apply Kd.S_drew)); exact Kd.S_mono (Kd.S_far (p := ⟨gb407, 1, none⟩) (Kd.S_far (p := ⟨gb407, 0, none⟩) (Kd.S_mono HO_5.out (fun k_ hk => (⟨hk, hk.2⟩ : _ ∧ k_ ≠ gb407))) (fun _ hk => hk.2) (.bool (true))) (fun _ hk => hk.2) (.int .i64 ((rd_T46 ((rd_T48 t386 x11_3).f1) x12_4).f1))) (fun _ hk => hk.1.2)⟩, ⟨by (with_reducible repeat (first | refine blk_drewN ?_ _ | refine blk_drew ?_ | refine blk_alloc ?_ _)); refine blk_put (cs := #[.bool (true), .int .i64 0]) ?_ 1 _ (by first | rfl | (rw [← Nbq45.out]; rfl)); (with_reducible repeat (first | refine blk_drewN ?_ _ | refine blk_drew ?_ | refine blk_alloc ?_ _)); refine blk_put (cs := #[.bool false, .int .i64 0]) ?_ 0 _ rfl; (with_reducible repeat (first | refine blk_drewN ?_ _ | refine blk_drew ?_ | refine blk_alloc ?_ _)); exact BK407.out⟩, ⟨(Kd.R_reads' (by (with_reducible repeat (first | apply Kd.R_alloc | apply Kd.R_drewN | apply Kd.R_drew)); exact (Kd.R_mono (Kd.R_far (p := ⟨gb407, 1, none⟩) (Kd.R_far (p := ⟨gb407, 0, none⟩) (Kd.R_mono HL404_1.out (fun k_ hk => (⟨hk, hk.2⟩ : _ ∧ k_ ≠ gb407))) (fun _ hk => hk.2) (.bool (true))) (fun _ hk => hk.2) (.int .i64 ((rd_T46 ((rd_T48 t386 x11_3).f1) x12_4).f1))) (fun _ h_ => h_.1)))).2.2⟩, ⟨(Kd.R_reads' (by (with_reducible repeat (first | apply Kd.R_alloc | apply Kd.R_drewN | apply Kd.R_drew)); exact (Kd.R_mono (Kd.R_far (p := ⟨gb407, 1, none⟩) (Kd.R_far (p := ⟨gb407, 0, none⟩) (Kd.R_mono HL405_1.out (fun k_ hk => (⟨hk, hk.2⟩ : _ ∧ k_ ≠ gb407))) (fun _ hk => hk.2) (.bool (true))) (fun _ hk => hk.2) (.int .i64 ((rd_T46 ((rd_T48 t386 x11_3).f1) x12_4).f1))) (fun _ h_ => h_.1)))).2.2⟩, ⟨by repeat (first | (with_reducible first | exact HB.out | apply below_alloc | apply pw_below_drewN | apply below_drew1 | refine below_set ?_ GE407.out) | exact HB.out)⟩⟩
                                      · replace c46 := Bool.eq_false_iff.mpr c46
                                        subst c46
                                        have H1 : (laws_FnGraphLed.j5 k4 t386 x9_4 x11_3 x12_4 false false ((rd_T46 ((rd_T48 t386 x11_3).f1) x12_4).f1)) = some r := by rw [if_neg (show ¬ (false = true) by decide)] at H; exact H
                                        clear H
                                        have H := H1
                                        clear H1
                                        have H' := Aside0.mk H
                                        clear H
                                        have hcz48_0 : w43.cell? ⟨gb407, 0, none⟩ = some (.bool false) := (blk_cell BK407.out 0).trans rfl
                                        have hcz48_1 : w43.cell? ⟨gb407, 1, none⟩ = some (.int .i64 0) := (blk_cell BK407.out 1).trans rfl
                                        have hfz48_0 := blk_frozen BK407.out 0
                                        have hfz48_1 := blk_frozen BK407.out 1
                                        go_wp2
                                        go_meet
                                        case rel => exact ⟨_, (false), (by first | rfl | (simp; done) | (simp [*]; done)), ⟨by rw [← Nbq45.out]; exact H'.out⟩, ⟨by have := HJ5.out; have := HK2.out; have := HK3.out; have := HK4.out; first | omega | exact Nat.le_refl _⟩, ⟨by (with_reducible repeat (first | apply Kd.S_alloc | apply Kd.S_drewN | apply Kd.S_drew)); exact Kd.S_mono (Kd.S_far (p := ⟨gb407, 1, none⟩) (Kd.S_far (p := ⟨gb407, 0, none⟩) (Kd.S_mono HO_5.out (fun k_ hk => (⟨hk, hk.2⟩ : _ ∧ k_ ≠ gb407))) (fun _ hk => hk.2) (.bool (false))) (fun _ hk => hk.2) (.int .i64 ((rd_T46 ((rd_T48 t386 x11_3).f1) x12_4).f1))) (fun _ hk => hk.1.2)⟩, ⟨by (with_reducible repeat (first | refine blk_drewN ?_ _ | refine blk_drew ?_ | refine blk_alloc ?_ _)); refine blk_put (cs := #[.bool (false), .int .i64 0]) ?_ 1 _ (by first | rfl | (rw [← Nbq45.out]; rfl)); (with_reducible repeat (first | refine blk_drewN ?_ _ | refine blk_drew ?_ | refine blk_alloc ?_ _)); refine blk_put (cs := #[.bool false, .int .i64 0]) ?_ 0 _ rfl; (with_reducible repeat (first | refine blk_drewN ?_ _ | refine blk_drew ?_ | refine blk_alloc ?_ _)); exact BK407.out⟩, ⟨(Kd.R_reads' (by (with_reducible repeat (first | apply Kd.R_alloc | apply Kd.R_drewN | apply Kd.R_drew)); exact (Kd.R_mono (Kd.R_far (p := ⟨gb407, 1, none⟩) (Kd.R_far (p := ⟨gb407, 0, none⟩) (Kd.R_mono HL404_1.out (fun k_ hk => (⟨hk, hk.2⟩ : _ ∧ k_ ≠ gb407))) (fun _ hk => hk.2) (.bool (false))) (fun _ hk => hk.2) (.int .i64 ((rd_T46 ((rd_T48 t386 x11_3).f1) x12_4).f1))) (fun _ h_ => h_.1)))).2.2⟩, ⟨(Kd.R_reads' (by (with_reducible repeat (first | apply Kd.R_alloc | apply Kd.R_drewN | apply Kd.R_drew)); exact (Kd.R_mono (Kd.R_far (p := ⟨gb407, 1, none⟩) (Kd.R_far (p := ⟨gb407, 0, none⟩) (Kd.R_mono HL405_1.out (fun k_ hk => (⟨hk, hk.2⟩ : _ ∧ k_ ≠ gb407))) (fun _ hk => hk.2) (.bool (false))) (fun _ hk => hk.2) (.int .i64 ((rd_T46 ((rd_T48 t386 x11_3).f1) x12_4).f1))) (fun _ h_ => h_.1)))).2.2⟩, ⟨by repeat (first | (with_reducible first | exact HB.out | apply below_alloc | apply pw_below_drewN | apply below_drew1 | refine below_set ?_ GE407.out) | exact HB.out)⟩⟩
                                    case rest =>
                                      clear HC42
                                      try clear c1
                                      try clear c2
                                      try clear c2b0
                                      try clear c2b1
                                      try clear p2
                                      try clear q2
                                      try clear c3
                                      try clear q3
                                      try clear c4
                                      try clear p4
                                      try clear q4
                                      try clear hx4
                                      try clear p6
                                      try clear c8
                                      try clear c13
                                      try clear c21
                                      try clear c22
                                      try clear c22b0
                                      try clear c23
                                      try clear c24
                                      try clear c25
                                      try clear c25b0
                                      try clear q26
                                      try clear c27
                                      try clear c28
                                      try clear c29
                                      try clear c29b0
                                      try clear c30
                                      try clear c30b0
                                      try clear q31
                                      try clear c32
                                      try clear c35
                                      try clear c35b0
                                      try clear c36
                                      try clear c36b0
                                      try clear c38
                                      try clear c38b0
                                      try clear c39
                                      try clear c39b0
                                      try clear c40
                                      try clear c40b0
                                      try clear p40
                                      try clear q40
                                      try clear hx40
                                      try clear c41
                                      try clear c41b0
                                      try clear q45
                                      try clear c46
                                      try clear hcz44_0
                                      try clear hcz44_1
                                      try clear hcz47_0
                                      try clear hcz47_1
                                      try clear hcz48_0
                                      try clear hcz48_1
                                      try clear hfz44_0
                                      try clear hfz44_1
                                      try clear hfz47_0
                                      try clear hfz47_1
                                      try clear hfz48_0
                                      try clear hfz48_1
                                      try clear hx400_0
                                      try clear hx400_1
                                      try clear hx401_0
                                      try clear hx401_1
                                      try clear hx402_0
                                      try clear hx402_1
                                      try clear hx403_0
                                      try clear hx403_1
                                      try clear hx404_0
                                      try clear hx404_1
                                      try clear hx405_0
                                      try clear hx405_1
                                      try clear hx406_0
                                      try clear hx406_1
                                      try clear p2
                                      try clear p4
                                      try clear p400
                                      try clear p401
                                      try clear p402
                                      try clear p403
                                      try clear p404
                                      try clear p405
                                      try clear p406
                                      try clear p6
                                      try clear q2
                                      try clear q26
                                      try clear q3
                                      try clear q31
                                      try clear q4
                                      try clear q400
                                      try clear q401
                                      try clear q402
                                      try clear q403
                                      try clear q404
                                      try clear q405
                                      try clear q406
                                      obtain ⟨kq, x112_41, rfl, HA, HJ41, HO_5, BK407, HR404_1, HR405_1, HB⟩ := hcut
                                      cases kq with
                                      | zero => exact absurd HA.out (by simp [laws_FnGraphLed.j5])
                                      | succ kj41 =>
                                        have H := HA.out
                                        clear HA
                                        simp only [laws_FnGraphLed.j5] at H
                                        by_cases c49 : x112_41 = true
                                        · subst c49
                                          have H1 : (some false) = some r := by rw [if_pos rfl] at H; exact H
                                          clear H
                                          have H := H1
                                          clear H1
                                          obtain rfl := Option.some.inj H
                                          exact absurd hr_ (by decide)
                                        · replace c49 := Bool.eq_false_iff.mpr c49
                                          subst c49
                                          have H1 : (if ((rd_T46 ((rd_T48 t386 x11_3).f1) x12_4).f0) = true then (laws_FnGraphLed.l2 kj41 t386 (mx x9_4 ((rd_T46 ((rd_T48 t386 x11_3).f1) x12_4).f1)) x11_3 (wrap64 (x12_4 + 1))) else (laws_FnGraphLed.l2 kj41 t386 x9_4 x11_3 (wrap64 (x12_4 + 1)))) = some r := by rw [if_neg (show ¬ (false = true) by decide)] at H; exact H
                                          clear H
                                          have H := H1
                                          clear H1
                                          by_cases c50 : ((rd_T46 ((rd_T48 t386 x11_3).f1) x12_4).f0) = true
                                          · rw [if_pos c50] at H
                                            have c50b0 : ((rd_T46 ((rd_T48 t386 x11_3).f1) x12_4).f0) = true := c50
                                            clear c50
                                            obtain ⟨ji51, hji51⟩ : ∃ j_ : Int, (mx x9_4 ((rd_T46 ((rd_T48 t386 x11_3).f1) x12_4).f1)) = j_ := ⟨_, rfl⟩
                                            replace H : (laws_FnGraphLed.l2 kj41 t386 ji51 x11_3 (wrap64 (x12_4 + 1))) = some r := by first | (rw [hji51] at H; exact H) | (simp only [hji51] at H ⊢; exact H)
                                            have hji51_ : (if x9_4 < ((rd_T46 ((rd_T48 t386 x11_3).f1) x12_4).f1) then ((rd_T46 ((rd_T48 t386 x11_3).f1) x12_4).f1) else x9_4) = ji51 := hji51
                                            have H' := Aside0.mk H
                                            clear H
                                            have hcz52_0 : wc.cell? ⟨gb407, 0, none⟩ = some (.bool ((rd_T46 ((rd_T48 t386 x11_3).f1) x12_4).f0)) := (blk_cell BK407.out 0).trans rfl
                                            have hcz52_1 : wc.cell? ⟨gb407, 1, none⟩ = some (.int .i64 ((rd_T46 ((rd_T48 t386 x11_3).f1) x12_4).f1)) := (blk_cell BK407.out 1).trans rfl
                                            have hfz52_0 := blk_frozen BK407.out 0
                                            have hfz52_1 := blk_frozen BK407.out 1
                                            go_wp2
                                            go_roundg kj41
                                            case measure => have := HJ5.out; have := HK2.out; have := HK3.out; have := HK4.out; have := HJ41.out; omega
                                            case rel => exact ⟨(ji51), (wrap64 (x12_4 + 1)), (by first | rfl | (simp; done) | (simp only [← hji51] <;> (first | rfl | simp)) | (simp [*]; done)), (by first | rfl | (simp; done) | (simp [*]; done)), H', ⟨by have := HJ5.out; have := HK2.out; have := HK3.out; have := HK4.out; have := HJ41.out; omega⟩, ⟨by (with_reducible repeat (first | apply Kd.S_alloc | apply Kd.S_drewN | apply Kd.S_drew)); exact Kd.S_mono HO_5.out (fun _ hk => trivial)⟩, ⟨by repeat (first | (with_reducible first | exact HB.out | apply below_alloc | apply pw_below_drewN | apply below_drew1 | refine below_set ?_ GE407.out) | exact HB.out)⟩⟩
                                          · rw [if_neg c50] at H
                                            have c50b0 : ((rd_T46 ((rd_T48 t386 x11_3).f1) x12_4).f0) = false := by simpa using c50
                                            clear c50
                                            have H' := Aside0.mk H
                                            clear H
                                            have hcz53_0 : wc.cell? ⟨gb407, 0, none⟩ = some (.bool ((rd_T46 ((rd_T48 t386 x11_3).f1) x12_4).f0)) := (blk_cell BK407.out 0).trans rfl
                                            have hcz53_1 : wc.cell? ⟨gb407, 1, none⟩ = some (.int .i64 ((rd_T46 ((rd_T48 t386 x11_3).f1) x12_4).f1)) := (blk_cell BK407.out 1).trans rfl
                                            have hfz53_0 := blk_frozen BK407.out 0
                                            have hfz53_1 := blk_frozen BK407.out 1
                                            go_wp2
                                            go_roundg kj41
                                            case measure => have := HJ5.out; have := HK2.out; have := HK3.out; have := HK4.out; have := HJ41.out; omega
                                            case rel => exact ⟨(x9_4), (wrap64 (x12_4 + 1)), (by first | rfl | (simp; done) | (simp [*]; done)), (by first | rfl | (simp; done) | (simp [*]; done)), H', ⟨by have := HJ5.out; have := HK2.out; have := HK3.out; have := HK4.out; have := HJ41.out; omega⟩, ⟨by (with_reducible repeat (first | apply Kd.S_alloc | apply Kd.S_drewN | apply Kd.S_drew)); exact Kd.S_mono HO_5.out (fun _ hk => trivial)⟩, ⟨by repeat (first | (with_reducible first | exact HB.out | apply below_alloc | apply pw_below_drewN | apply below_drew1 | refine below_set ?_ GE407.out) | exact HB.out)⟩⟩
                                  · rw [if_neg c41] at H
                                    exact absurd H (by simp)
                                · rw [if_neg c40] at H
                                  have c40b0 : decide (x12_4 < (((rd_T48 t386 x11_3).f1).length : Int)) = false := decide_eq_false c40
                                  clear c40
                                  have H' := Aside0.mk H
                                  clear H
                                  have p404 : 0 ≤ (x11_3 : Int) := of_decide_eq_true (by first | (with_reducible assumption) | assumption)
                                  have q404 : x11_3 < (t386.length : Int) := of_decide_eq_true (by first | (with_reducible assumption) | assumption)
                                  obtain ⟨ad404, A404_1, c404_1, e404, hx404_0, hx404_1, hl404_1, hi404_1⟩ := at_T48 (Kd.S_reads' HO_5.out).2.2 x11_3 p404 q404
                                  cases e404
                                  obtain ⟨ce404, hce404, hMe404, hcc404⟩ := Kd.S_get HO_5.out z48 x11_3 p404 (by first | exact q404 | exact of_decide_eq_true (by first | (with_reducible assumption) | assumption) | (have e_ := (Kd.S_reads' HO_5.out).1; omega))
                                  obtain ⟨ve404_1, rfl, ge404_1⟩ := k48_openM hMe404
                                  have hv404_1 := hcc404 1 _ rfl
                                  rw [add_field _ _ 1 (by omega)] at hv404_1
                                  replace hv404_1 := Option.some.inj (hv404_1.symm.trans hx404_1)
                                  rw [hv404_1] at ge404_1
                                  have HL404_1 := Aside0.mk (show Kd.R k46 46 _ _ _ _ ((rd_T48 t386 x11_3).f1) from ge404_1)
                                  clear hv404_1 ge404_1
                                  clear hcc404 hce404
                                  have HR404_1 := Aside0.mk hi404_1
                                  have HC404_1 := Aside0.mk hl404_1
                                  clear hi404_1 hl404_1
                                  replace p404 := eq_true p404
                                  replace q404 := eq_true q404
                                  go_wp2
                                  go_roundg k4
                                  case measure => have := HJ5.out; have := HK2.out; have := HK3.out; have := HK4.out; omega
                                  case rel => exact ⟨(x9_4), (wrap64 (x11_3 + 1)), (by first | rfl | (simp; done) | (simp [*]; done)), (by first | rfl | (simp; done) | (simp [*]; done)), H', ⟨by have := HJ5.out; have := HK2.out; have := HK3.out; have := HK4.out; omega⟩, ⟨by (with_reducible repeat (first | apply Kd.S_alloc | apply Kd.S_drewN | apply Kd.S_drew)); exact HO_5.out⟩, ⟨by repeat (first | (with_reducible first | exact HB.out | apply below_alloc | apply pw_below_drewN | apply below_drew1) | exact HB.out)⟩⟩
                              · rw [if_neg c39] at H
                                exact absurd H (by simp)
                            · rw [if_neg c38] at H
                              exact absurd H (by simp)
                    · rw [if_neg c35] at H
                      have c35b0 : decide (x11_3 < (t386.length : Int)) = false := decide_eq_false c35
                      clear c35
                      obtain rfl := Option.some.inj H
                      simp only [Option.some.injEq, Prod.mk.injEq] at H
                      obtain ⟨rfl⟩ := H
                      obtain ⟨Ao54, co54, eo54⟩ := Kd.S_slice HO_5.out
                      subst eo54
                      go_wp2
                      go_ret
                      exact ⟨by first | rfl | (simp [errW_none, errW_some] <;> rfl) | (simp [*, errW_none, errW_some] <;> rfl), by repeat (first | (with_reducible first | exact HB.out | apply below_alloc | apply pw_below_drewN | apply below_drew1) | exact HB.out)⟩
theorem laws_FnGraphLed.walk (P : laws_FnGraphLed.Pure) (a0 : Option Addr) (len0 cap0 : Nat) (z0 : List Int) (w : World) (w0 : (a0 = none ∧ len0 = 0 ∧ cap0 = 0 ∧ z0 = []) ∨ ∃ x, a0 = some x ∧ len0 ≤ cap0 ∧ cap0 ≤ maxLen ∧ z0.length = cap0 ∧ (∀ i, i < z0.length → w.cell? (x.add i) = some (.int .u8 (z0.getD i 0))) ∧ ∀ n ∈ z0, (Lit.int .u8 n).wf = true) (y0 : len0 * 1 ≤ 140737488351232) :
    Calls Try.prog 8 #[.slice a0 len0 cap0] w fun e w' => e = .returned (.bool true) ∧ Below w.heap.size w w' := by
  obtain ⟨l0, rfl, hr0, hm0, hw0, hc0⟩ := ReadsInt.ofRowC w0
  obtain ⟨k, h⟩ := P l0 hm0 y0 hw0
  refine (laws_FnGraphLed.calls k _ _ l0 true w (Kd.C_of_reads (d := (0 : Int)) (h1 := fun _ => rfl) hr0) hc0 h rfl).mono ?_
  rintro e w' ⟨rfl, hd⟩
  exact ⟨rfl, hd⟩
end Go.Proofs.Yteeakklnlcjgbaa.P

end
section

namespace Go.Proofs.Yteeakklnlcjgbaa.Kit
open Go Go.RowKit Go.Proofs.YteeakklnlcjgbaaW.PrintWords
set_option linter.unusedVariables false
def Evp {α : Type} (g : Nat → Option α) (P : α → Prop) : Prop := ∃ r, Ev g r ∧ P r
theorem Evp.pure {α : Type} {P : α → Prop} (r : α) (h : P r) : Evp (fun _ => some r) P := ⟨r, Ev.now r, h⟩
theorem Evp.bind {α β : Type} {g : Nat → Option α} {f : Nat → α → Option β} {P : α → Prop} {Q : β → Prop} (h : Evp g P) (k : ∀ a, P a → Evp (fun n => f n a) Q) : Evp (fun n => (g n).bind (f n)) Q := by
  obtain ⟨a, ha, hp⟩ := h
  obtain ⟨r, hr, hq⟩ := k a hp
  exact ⟨r, Ev.bind ha hr, hq⟩
theorem Evp.step {α : Type} {g f : Nat → Option α} {P : α → Prop} (h : ∀ k, g (k + 1) = f k) (k : Evp f P) : Evp g P := by
  obtain ⟨r, hr, hp⟩ := k
  exact ⟨r, Ev.step h hr, hp⟩
theorem Evp.congr {α : Type} {g f : Nat → Option α} {P : α → Prop} (h : ∀ k, g k = f k) (k : Evp f P) : Evp g P := by
  obtain ⟨r, hr, hp⟩ := k
  exact ⟨r, Ev.congr h hr, hp⟩
theorem Evp.mono {α : Type} {g : Nat → Option α} {P Q : α → Prop} (h : Evp g P) (hpq : ∀ r, P r → Q r) : Evp g Q := by
  obtain ⟨r, hr, hp⟩ := h
  exact ⟨r, hr, hpq r hp⟩
theorem Evp.yes {α : Type} {c : Prop} [Decidable c] {f g : Nat → Option α} {P : α → Prop} (hc : c) (h : Evp f P) : Evp (fun n => if c then f n else g n) P := by
  simp only [if_pos hc]; exact h
theorem Evp.no {α : Type} {c : Prop} [Decidable c] {f g : Nat → Option α} {P : α → Prop} (hc : ¬ c) (h : Evp g P) : Evp (fun n => if c then f n else g n) P := by
  simp only [if_neg hc]; exact h
theorem Evp.ite {α : Type} {c : Prop} [Decidable c] {f g : Nat → Option α} {P : α → Prop} (h : c → Evp f P) (k : ¬ c → Evp g P) : Evp (fun n => if c then f n else g n) P := by
  by_cases hc : c
  · exact Evp.yes hc (h hc)
  · exact Evp.no hc (k hc)
theorem Ev.of_evp {α : Type} {g : Nat → Option α} {r : α} (h : Evp g (fun x => x = r)) : Ev g r := by
  obtain ⟨x, hx, rfl⟩ := h
  exact hx
theorem Evp.rounds {α : Type} {g : Nat → Option α} {r : α} (h : Evp g (fun x => x = r)) : ∃ k, g k = some r := (Ev.of_evp h).rounds
theorem Evp.for_ {ρ : Type} {n : Nat} {g : Nat → Nat → Option ρ} {R : Nat → ρ → Prop} (hend : Evp (g n) (R n)) (hstep : ∀ i, i < n → Evp (g (i + 1)) (R (i + 1)) → Evp (g i) (R i)) : ∀ i, i ≤ n → Evp (g i) (R i) := by
  have key : ∀ d i, i + d = n → Evp (g i) (R i) := by
    intro d
    induction d with
    | zero => intro i hi; have : i = n := by omega
              subst this; exact hend
    | succ d ih => intro i hi; exact hstep i (by omega) (ih (i + 1) (by omega))
  intro i hi
  exact key (n - i) i (by omega)
theorem Evp.fors {σ ρ : Type} {n : Nat} {g : Nat → σ → Nat → Option ρ} {I : Nat → σ → Prop} {R : Nat → σ → ρ → Prop} (hend : ∀ s, I n s → Evp (g n s) (R n s))
    (hstep : ∀ i, i < n → (∀ s, I (i + 1) s → Evp (g (i + 1) s) (R (i + 1) s)) → ∀ s, I i s → Evp (g i s) (R i s)) : ∀ i, i ≤ n → ∀ s, I i s → Evp (g i s) (R i s) := by
  have key : ∀ d i, i + d = n → ∀ s, I i s → Evp (g i s) (R i s) := by
    intro d
    induction d with
    | zero => intro i hi; have : i = n := by omega
              subst this; exact hend
    | succ d ih => intro i hi; exact hstep i (by omega) (ih (i + 1) (by omega))
  intro i hi
  exact key (n - i) i (by omega)
theorem drop_at {α : Type} {xs : List α} {i : Nat} (h : i < xs.length) : xs.drop i = xs[i] :: xs.drop (i + 1) := List.drop_eq_getElem_cons h
theorem getD_at {α : Type} {xs : List α} {i : Nat} (h : i < xs.length) (d : α) : xs.getD i d = xs[i] := by
  rw [List.getD_eq_getElem?_getD, List.getElem?_eq_getElem h]; rfl
theorem w64' {i n : Nat} (h : i < n) (hn : n ≤ 9223372036854775807) : wrap64 ((i : Int) + 1) = ((i + 1 : Nat) : Int) := by unfold wrap64; omega
theorem w64 {n : Int} (h0 : -9223372036854775808 ≤ n) (h1 : n ≤ 9223372036854775807) : wrap64 n = n := by unfold wrap64; omega
theorem tmod_pos {a b : Int} (h0 : 0 ≤ a) : Int.tmod a b = a % b := Int.tmod_eq_emod_of_nonneg h0
theorem tdiv_pos {a b : Int} (h0 : 0 ≤ a) : Int.tdiv a b = a / b := Int.tdiv_eq_ediv_of_nonneg h0
theorem tmod_lo {a b : Int} (h0 : 0 ≤ a) (hb : 0 < b) : 0 ≤ Int.tmod a b ∧ Int.tmod a b < b := by
  rw [tmod_pos h0]; exact ⟨Int.emod_nonneg _ (by omega), Int.emod_lt_of_pos _ hb⟩
theorem xor_nonneg {a b : Int} (ha : 0 ≤ a) (ha' : a < 4611686018427387904) (hb : 0 ≤ b) (hb' : b < 4611686018427387904) :
    0 ≤ Go.bits .xor .i64 a b ∧ Go.bits .xor .i64 a b < 4611686018427387904 := by
  obtain ⟨x, rfl⟩ := Int.eq_ofNat_of_zero_le ha
  obtain ⟨y, rfl⟩ := Int.eq_ofNat_of_zero_le hb
  have hx : x < 2 ^ 62 := by omega
  have hy : y < 2 ^ 62 := by omega
  have hxy := Nat.xor_lt_two_pow hx hy
  have e : Go.bits .xor .i64 (x : Int) (y : Int) = ((x ^^^ y : Nat) : Int) := by
    show IntKind.i64.wrap (((BitVec.ofInt 64 (x : Int)) ^^^ (BitVec.ofInt 64 (y : Int))).toNat : Int) = _
    rw [BitVec.toNat_xor]
    have e1 : (BitVec.ofInt 64 (x : Int)).toNat = x := by simp; omega
    have e2 : (BitVec.ofInt 64 (y : Int)).toNat = y := by simp; omega
    rw [e1, e2, IntKind.wrap_i64]
    omega
  rw [e]
  omega
end Go.Proofs.Yteeakklnlcjgbaa.Kit

end
section

namespace Go.Proofs.Yteeakklnlcjgbaa.P
open Go.RowKit Go.Proofs.YteeakklnlcjgbaaW.PrintWords Go.Proofs.YteeakklnlcjgbaaW.PrintLast Go.Proofs.YteeakklnlcjgbaaW.PrintMore
attribute [local go_sem] max2_int min2_int max_two min_two max_three min_three max_four min_four
set_option linter.unusedVariables false
set_option linter.unusedSimpArgs false
end Go.Proofs.Yteeakklnlcjgbaa.P

end
section

namespace Go.Proofs.Yteeakklnlcjgbaa.P
open Go.RowKit Go.Proofs.YteeakklnlcjgbaaW.PrintWords Go.Proofs.YteeakklnlcjgbaaW.PrintLast Go.Proofs.YteeakklnlcjgbaaW.PrintMore
attribute [local go_sem] max2_int min2_int max_two min_two max_three min_three max_four min_four
set_option linter.unusedVariables false
set_option linter.unusedSimpArgs false
end Go.Proofs.Yteeakklnlcjgbaa.P

end
section

namespace Go.Proofs.Yteeakklnlcjgbaa.P
open Go.RowKit Go.Proofs.YteeakklnlcjgbaaW.PrintWords Go.Proofs.YteeakklnlcjgbaaW.PrintLast Go.Proofs.YteeakklnlcjgbaaW.PrintMore
attribute [local go_sem] max2_int min2_int max_two min_two max_three min_three max_four min_four
set_option linter.unusedVariables false
set_option linter.unusedSimpArgs false
end Go.Proofs.Yteeakklnlcjgbaa.P

end
section

namespace Go.Proofs.Yteeakklnlcjgbaa.P
open Go.RowKit Go.Proofs.YteeakklnlcjgbaaW.PrintWords Go.Proofs.YteeakklnlcjgbaaW.PrintLast Go.Proofs.YteeakklnlcjgbaaW.PrintMore
attribute [local go_sem] max2_int min2_int max_two min_two max_three min_three max_four min_four
set_option linter.unusedVariables false
set_option linter.unusedSimpArgs false
end Go.Proofs.Yteeakklnlcjgbaa.P

end
section

namespace Go.Proofs.Yteeakklnlcjgbaa.P
open Go.RowKit Go.Proofs.YteeakklnlcjgbaaW.PrintWords Go.Proofs.YteeakklnlcjgbaaW.PrintLast Go.Proofs.YteeakklnlcjgbaaW.PrintMore
attribute [local go_sem] max2_int min2_int max_two min_two max_three min_three max_four min_four
set_option linter.unusedVariables false
set_option linter.unusedSimpArgs false
end Go.Proofs.Yteeakklnlcjgbaa.P

end
section

namespace Go.Proofs.Yteeakklnlcjgbaa.P
open Go.RowKit Go.Proofs.YteeakklnlcjgbaaW.PrintWords Go.Proofs.YteeakklnlcjgbaaW.PrintLast Go.Proofs.YteeakklnlcjgbaaW.PrintMore
attribute [local go_sem] max2_int min2_int max_two min_two max_three min_three max_four min_four
set_option linter.unusedVariables false
set_option linter.unusedSimpArgs false
end Go.Proofs.Yteeakklnlcjgbaa.P

end
section

namespace Go.Proofs.Yteeakklnlcjgbaa.P
open Go.RowKit Go.Proofs.YteeakklnlcjgbaaW.PrintWords Go.Proofs.YteeakklnlcjgbaaW.PrintLast Go.Proofs.YteeakklnlcjgbaaW.PrintMore
attribute [local go_sem] max2_int min2_int max_two min_two max_three min_three max_four min_four
set_option linter.unusedVariables false
set_option linter.unusedSimpArgs false
end Go.Proofs.Yteeakklnlcjgbaa.P

end
section

namespace Go.Proofs.Yteeakklnlcjgbaa.P
open Go.RowKit Go.Proofs.YteeakklnlcjgbaaW.PrintWords Go.Proofs.YteeakklnlcjgbaaW.PrintLast Go.Proofs.YteeakklnlcjgbaaW.PrintMore
attribute [local go_sem] max2_int min2_int max_two min_two max_three min_three max_four min_four
set_option linter.unusedVariables false
set_option linter.unusedSimpArgs false
end Go.Proofs.Yteeakklnlcjgbaa.P

end
section

namespace Go.Proofs.Yteeakklnlcjgbaa.P
open Go.RowKit Go.Proofs.YteeakklnlcjgbaaW.PrintWords Go.Proofs.YteeakklnlcjgbaaW.PrintLast Go.Proofs.YteeakklnlcjgbaaW.PrintMore
attribute [local go_sem] max2_int min2_int max_two min_two max_three min_three max_four min_four
set_option linter.unusedVariables false
set_option linter.unusedSimpArgs false
end Go.Proofs.Yteeakklnlcjgbaa.P

end
section

namespace Go.Proofs.Yteeakklnlcjgbaa.P
open Go.RowKit Go.Proofs.YteeakklnlcjgbaaW.PrintWords Go.Proofs.YteeakklnlcjgbaaW.PrintLast Go.Proofs.YteeakklnlcjgbaaW.PrintMore
attribute [local go_sem] max2_int min2_int max_two min_two max_three min_three max_four min_four
set_option linter.unusedVariables false
set_option linter.unusedSimpArgs false
end Go.Proofs.Yteeakklnlcjgbaa.P

end
section

namespace Go.Proofs.Yteeakklnlcjgbaa.P
open Go.RowKit Go.Proofs.YteeakklnlcjgbaaW.PrintWords Go.Proofs.YteeakklnlcjgbaaW.PrintLast Go.Proofs.YteeakklnlcjgbaaW.PrintMore
attribute [local go_sem] max2_int min2_int max_two min_two max_three min_three max_four min_four
set_option linter.unusedVariables false
set_option linter.unusedSimpArgs false
end Go.Proofs.Yteeakklnlcjgbaa.P

end
section

namespace Go.Proofs.Yteeakklnlcjgbaa.P
open Go.RowKit Go.Proofs.YteeakklnlcjgbaaW.PrintWords Go.Proofs.YteeakklnlcjgbaaW.PrintLast Go.Proofs.YteeakklnlcjgbaaW.PrintMore
attribute [local go_sem] max2_int min2_int max_two min_two max_three min_three max_four min_four
set_option linter.unusedVariables false
set_option linter.unusedSimpArgs false
end Go.Proofs.Yteeakklnlcjgbaa.P

end
section

namespace Go.Proofs.Yteeakklnlcjgbaa.Kit
open Go Go.RowKit Go.Proofs.YteeakklnlcjgbaaW.PrintWords Go.Proofs.Yteeakklnlcjgbaa.P
set_option linter.unusedVariables false
def valOk (n : Nat) (v : S46) : Bool := !v.f0 || (decide (0 ≤ v.f1) && decide (v.f1 ≤ (n : Int)))
def heapOk (objs : List S48) (roots : List S46) : Bool := roots.all (valOk objs.length) && objs.all fun o => o.f1.all (valOk objs.length)
theorem spec_val (v : S46) (n : Nat) : spec_l12Val.f v.f0 v.f1 (n : Int) = some (valOk n v) := by
  obtain ⟨b, x⟩ := v
  unfold spec_l12Val.f valOk spec_l6In.f
  cases b <;> by_cases h1 : 0 ≤ x <;> simp [h1]
theorem impl_val (v : S46) (n : Nat) : impl_leadsOk.f v.f0 v.f1 (n : Int) = some (valOk n v) := by
  obtain ⟨b, x⟩ := v
  unfold impl_leadsOk.f valOk
  cases b <;> by_cases h1 : 0 ≤ x <;> simp [h1]
theorem rd46 {xs : List S46} {i : Nat} (h : i < xs.length) : rd_T46 xs (i : Int) = xs[i] := getD_at h _
theorem rd48 {xs : List S48} {i : Nat} (h : i < xs.length) : rd_T48 xs (i : Int) = xs[i] := getD_at h _
def Small (objs : List S48) : Prop := objs.length ≤ 1073741824 ∧ ∀ o ∈ objs, o.f1.length ≤ 1073741824
theorem spec_heap {objs : List S48} {roots : List S46} (ho : Small objs) (hr : roots.length ≤ 1073741824) : Evp (fun k => spec_HeapOk.f k objs roots) (fun r => r = heapOk objs roots) := by
  have h1 : ∀ i, i ≤ objs.length → Evp (fun k => spec_HeapOk.l1 k objs (i : Int)) (fun r => r = (objs.drop i).all fun o => o.f1.all (valOk objs.length)) := by
    refine Evp.for_ ?_ (fun i hi ih => ?_)
    · refine Evp.step (f := fun k => _) (fun k => by rw [spec_HeapOk.l1]) (Evp.no (by omega) (Evp.pure _ (by simp)))
    · refine Evp.step (f := fun k => _) (fun k => by rw [spec_HeapOk.l1]) (Evp.yes (by omega) ?_)
      have hv : objs[i].f1.length ≤ 1073741824 := ho.2 _ (List.getElem_mem hi)
      have ho1 := ho.1
      have h2 : ∀ j, j ≤ objs[i].f1.length → Evp (fun k => spec_HeapOk.l2 k objs (i : Int) (j : Int)) (fun r => r = ((objs[i].f1.drop j).all (valOk objs.length) && (objs.drop (i + 1)).all fun o => o.f1.all (valOk objs.length))) := by
        refine Evp.for_ ?_ (fun j hj ihj => ?_)
        · refine Evp.step (f := fun k => _) (fun k => by rw [spec_HeapOk.l2, rd48 hi]) (Evp.yes (by omega) (Evp.yes (by omega) (Evp.no (by omega) ?_)))
          rw [w64' hi (by omega)]
          simpa using ih
        · refine Evp.step (f := fun k => _) (fun k => by rw [spec_HeapOk.l2, rd48 hi, rd46 hj, spec_val, Option.bind_some]) (Evp.yes (by omega) (Evp.yes (by omega) (Evp.yes (by omega) (Evp.yes (by omega) ?_))))
          rw [w64' hj (by omega), drop_at hj, List.all_cons]
          refine Evp.ite (fun h => ?_) (fun h => Evp.pure _ (by simp [h]))
          simpa [h] using ihj
      rw [drop_at hi, List.all_cons]
      simpa using h2 0 (Nat.zero_le _)
  have h0 : ∀ i, i ≤ roots.length → Evp (fun k => spec_HeapOk.l0 k objs roots (i : Int)) (fun r => r = ((roots.drop i).all (valOk objs.length) && objs.all fun o => o.f1.all (valOk objs.length))) := by
    refine Evp.for_ ?_ (fun i hi ih => ?_)
    · refine Evp.step (f := fun k => _) (fun k => by rw [spec_HeapOk.l0]) (Evp.no (by omega) ?_)
      simpa using h1 0 (Nat.zero_le _)
    · refine Evp.step (f := fun k => _) (fun k => by rw [spec_HeapOk.l0, rd46 hi, spec_val, Option.bind_some]) (Evp.yes (by omega) (Evp.yes (by omega) ?_))
      rw [w64' hi (by omega), drop_at hi, List.all_cons]
      refine Evp.ite (fun h => ?_) (fun h => Evp.pure _ (by simp [h]))
      simpa [h] using ih
  exact h0 0 (Nat.zero_le _)
theorem impl_heap {objs : List S48} {roots : List S46} (ho : Small objs) (hr : roots.length ≤ 1073741824) : Evp (fun k => impl_HeapOk.f k objs roots) (fun r => r = heapOk objs roots) := by
  have h1 : ∀ i, i ≤ objs.length → Evp (fun k => impl_HeapOk.l1 k objs objs (objs.length : Int) (i : Int)) (fun r => r = (objs.drop i).all fun o => o.f1.all (valOk objs.length)) := by
    refine Evp.for_ ?_ (fun i hi ih => ?_)
    · refine Evp.step (f := fun k => _) (fun k => by rw [impl_HeapOk.l1]) (Evp.no (by omega) (Evp.pure _ (by simp)))
    · refine Evp.step (f := fun k => _) (fun k => by rw [impl_HeapOk.l1, rd48 hi]) (Evp.yes (by omega) (Evp.yes (by omega) (Evp.yes (by omega) ?_)))
      have hv : objs[i].f1.length ≤ 1073741824 := ho.2 _ (List.getElem_mem hi)
      have ho1 := ho.1
      have h2 : ∀ j, j ≤ objs[i].f1.length → Evp (fun k => impl_HeapOk.l2 k objs objs (objs.length : Int) (i : Int) objs[i].f1 (objs[i].f1.length : Int) (j : Int)) (fun r => r = ((objs[i].f1.drop j).all (valOk objs.length) && (objs.drop (i + 1)).all fun o => o.f1.all (valOk objs.length))) := by
        refine Evp.for_ ?_ (fun j hj ihj => ?_)
        · refine Evp.step (f := fun k => _) (fun k => by rw [impl_HeapOk.l2]) (Evp.no (by omega) ?_)
          rw [w64' hi (by omega)]
          simpa using ih
        · refine Evp.step (f := fun k => _) (fun k => by rw [impl_HeapOk.l2, rd46 hj, impl_val, Option.bind_some]) (Evp.yes (by omega) (Evp.yes (by omega) (Evp.yes (by omega) ?_)))
          rw [w64' hj (by omega), drop_at hj, List.all_cons]
          refine Evp.ite (fun h => ?_) (fun h => Evp.pure _ (by simp [h]))
          simpa [h] using ihj
      rw [drop_at hi, List.all_cons]
      simpa using h2 0 (Nat.zero_le _)
  have h0 : ∀ i, i ≤ roots.length → Evp (fun k => impl_HeapOk.l0 k objs roots (roots.length : Int) (i : Int)) (fun r => r = ((roots.drop i).all (valOk objs.length) && objs.all fun o => o.f1.all (valOk objs.length))) := by
    refine Evp.for_ ?_ (fun i hi ih => ?_)
    · refine Evp.step (f := fun k => _) (fun k => by rw [impl_HeapOk.l0]) (Evp.no (by omega) ?_)
      simpa using h1 0 (Nat.zero_le _)
    · refine Evp.step (f := fun k => _) (fun k => by rw [impl_HeapOk.l0, rd46 hi, impl_val, Option.bind_some]) (Evp.yes (by omega) (Evp.yes (by omega) (Evp.yes (by omega) ?_)))
      rw [w64' hi (by omega), drop_at hi, List.all_cons]
      refine Evp.ite (fun h => ?_) (fun h => Evp.pure _ (by simp [h]))
      simpa [h] using ih
  exact h0 0 (Nat.zero_le _)
end Go.Proofs.Yteeakklnlcjgbaa.Kit

end
