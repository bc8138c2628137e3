/- A part of the claim FnGraphTurn: texts of this session and texts that its program printed out of the translation, joined. -/
import Derived.Test.YteeakklnlcjgbaaCFnGraphTurn22
import Derived.Test.YteeakklnlcjgbaaCFnGraphTurn23
import Derived.Test.YteeakklnlcjgbaaCFnGraphTurn24
import Derived.Test.YteeakklnlcjgbaaCFnGraphTurn25
import Derived.Test.YteeakklnlcjgbaaCFnGraphTurn26
import Derived.Test.YteeakklnlcjgbaaCFnGraphTurn27
import Derived.Test.YteeakklnlcjgbaaCFnGraphTurn20
import Derived.Test.YteeakklnlcjgbaaCFnGraphTurn0
import Derived.Test.YteeakklnlcjgbaaCFnGraphTurn1
import Derived.Test.YteeakklnlcjgbaaCFnGraphTurn2
import Derived.Test.YteeakklnlcjgbaaCFnGraphTurn3
import Derived.Test.YteeakklnlcjgbaaCFnGraphTurn4
import Derived.Test.YteeakklnlcjgbaaCFnGraphTurn5
import Derived.Test.YteeakklnlcjgbaaCFnGraphTurn6
import Derived.Test.YteeakklnlcjgbaaCFnGraphTurn7
import Derived.Test.YteeakklnlcjgbaaCFnGraphTurn8
import Derived.Test.YteeakklnlcjgbaaCFnGraphTurn9
import Derived.Test.YteeakklnlcjgbaaCFnGraphTurn10
import Derived.Test.YteeakklnlcjgbaaCFnGraphTurn11
import Derived.Test.YteeakklnlcjgbaaCFnGraphTurn12
import Derived.Test.YteeakklnlcjgbaaCFnGraphTurn13
import Derived.Test.YteeakklnlcjgbaaCFnGraphTurn14
import Derived.Test.YteeakklnlcjgbaaCFnGraphTurn15
import Derived.Test.YteeakklnlcjgbaaCFnGraphTurn16
import Derived.Test.YteeakklnlcjgbaaCFnGraphTurn17
import Derived.Test.YteeakklnlcjgbaaCFnGraphTurn18
import Derived.Test.YteeakklnlcjgbaaCFnGraphTurn19
import Derived.Test.YteeakklnlcjgbaaCFnGraphTurn21
section

namespace Go.Proofs.Yteeakklnlcjgbaa.P
open Go.RowKit Go.Proofs.YteeakklnlcjgbaaW.PrintWords Go.Proofs.YteeakklnlcjgbaaW.PrintLast Go.Proofs.YteeakklnlcjgbaaW.PrintMore
attribute [local go_sem] max2_int min2_int max_two min_two max_three min_three max_four min_four
set_option linter.unusedVariables false
set_option linter.unusedSimpArgs false
set_option maxHeartbeats 8000000 in
set_option maxRecDepth 100000 in
theorem laws_FnGraphTurn.calls (k : Nat) (A0 : Option Addr) (c0 : Nat) (l0 : List Int) (A1 : Option Addr) (c1 : Nat) (l1 : List Int) (r : Bool) (w : World) (hr0 : Kd.C (Kd.int .u8) w A0 l0.length l0) (hc0 : l0.length ≤ c0) (hr1 : Kd.C (Kd.int .u8) w A1 l1.length l1) (hc1 : l1.length ≤ c1) (h : laws_FnGraphTurn.f k l0 l1 = some r) (hr_ : r = true) :
    Calls Try.prog 11 #[.slice A0 l0.length c0, .slice A1 l1.length c1] w fun e w' => e = .returned (.bool r) ∧ Below w.heap.size w w' := by
  have HR0 := Aside0.mk hr0
  have HC0 := Aside0.mk hc0
  clear hr0 hc0
  have HR1 := Aside0.mk hr1
  have HC1 := Aside0.mk hc1
  clear hr1 hc1
  have HB := Aside0.mk (Below.refl w.heap.size w)
  have H : (if (l0.length : Int) > 1048576 then (laws_FnGraphTurn.j0 k l0 l1 true) else (laws_FnGraphTurn.j0 k l0 l1 (decide ((l1.length : Int) > 1048576)))) = some r := h
  clear h
  have HC3 := Aside0.mk H
  clear H
  go_enter Try.func11, Try.ntmps11
  go_upto_region 1 with (fail)
  go_cut [22] (fun v22 wc => ∃ (kq : Nat) (x22_2 : Bool), v22 = .bool x22_2 ∧ Aside0 (laws_FnGraphTurn.j0 kq l0 l1 x22_2 = some r) ∧ Aside0 (kq ≤ k) ∧ Aside0 (Below w.heap.size w wc))
  case first =>
    have H := HC3.out
    clear HC3
    by_cases c4 : (l0.length : Int) > 1048576
    · rw [if_pos c4] at H
      have c4b0 : decide (1048576 < (l0.length : Int)) = true := decide_eq_true c4
      have c4b1 : decide (1048576 < l0.length) = true := decide_eq_true (by omega)
      clear c4
      (first | rw [c4b0] | (simp only [i64_w, i32_w]; rw [c4b0]) | skip)
      have H' := Aside0.mk H
      clear H
      go_wp2
      go_meet
      case rel => exact ⟨_, (true), (by first | rfl | (simp; done) | (simp [*]; done)), H', ⟨by first | omega | exact Nat.le_refl _⟩, ⟨by repeat (first | (with_reducible first | exact HB.out | apply below_alloc | apply pw_below_drewN | apply below_drew1) | exact HB.out)⟩⟩
    · rw [if_neg c4] at H
      have c4b0 : decide (1048576 < (l0.length : Int)) = false := decide_eq_false c4
      have c4b1 : decide (1048576 < l0.length) = false := decide_eq_false (by omega)
      clear c4
      (first | rw [c4b0] | (simp only [i64_w, i32_w]; rw [c4b0]) | skip)
      have H' := Aside0.mk H
      clear H
      go_wp2
      go_meet
      case rel => exact ⟨_, (decide ((l1.length : Int) > 1048576)), (by first | rfl | (simp; done) | (simp [*]; done)), H', ⟨by first | omega | exact Nat.le_refl _⟩, ⟨by repeat (first | (with_reducible first | exact HB.out | apply below_alloc | apply pw_below_drewN | apply below_drew1) | exact HB.out)⟩⟩
  case rest =>
    clear HC3
    try clear c1
    try clear p2
    try clear c4
    try clear c4b0
    try clear c4b1
    obtain ⟨kq, x22_2, rfl, HA, HJ2, HB⟩ := hcut
    cases kq with
    | zero => exact absurd HA.out (by simp [laws_FnGraphTurn.j0])
    | succ kj2 =>
      have H := HA.out
      clear HA
      simp only [laws_FnGraphTurn.j0] at H
      by_cases c5 : x22_2 = true
      · subst c5
        have H1 : (some true) = some r := by rw [if_pos rfl] at H; exact H
        clear H
        have H := H1
        clear H1
        obtain rfl := Option.some.inj H
        simp only [Option.some.injEq, Prod.mk.injEq] at H
        obtain ⟨rfl⟩ := H
        go_wp2
        go_ret
        exact ⟨by first | rfl | (simp [errW_none, errW_some] <;> rfl) | (simp [*, errW_none, errW_some] <;> rfl), by repeat (first | (with_reducible first | exact HB.out | apply below_alloc | apply pw_below_drewN | apply below_drew1) | exact HB.out)⟩
      · replace c5 := Bool.eq_false_iff.mpr c5
        subst c5
        have H1 : ((spec_DrawHeapGraph.f kj2 l0).bind fun bt511 => ((impl_HeapGraph.f kj2 bt511.1 bt511.2).bind fun bt517 => ((spec_HeapGraph.f kj2 bt511.1 bt511.2).bind fun bt523 => ((laws_leObjs.f kj2 bt517.1 bt523.1).bind fun t529 => (if t529 = true then ((laws_leVals.f kj2 bt517.2 bt523.2).bind fun t530 => (if t530 = true then ((spec_HeapOk.f kj2 bt511.1 bt511.2).bind fun t531 => (if t531 = true then (laws_FnGraphTurn.j1 kj2 l1 bt511.1 bt511.2 bt517.1 bt517.2 bt523.1 bt523.2 ((bt511.1.length : Int) == 0)) else (laws_FnGraphTurn.j1 kj2 l1 bt511.1 bt511.2 bt517.1 bt517.2 bt523.1 bt523.2 true))) else (laws_FnGraphTurn.j1 kj2 l1 bt511.1 bt511.2 bt517.1 bt517.2 bt523.1 bt523.2 true))) else (laws_FnGraphTurn.j1 kj2 l1 bt511.1 bt511.2 bt517.1 bt517.2 bt523.1 bt523.2 true)))))) = some r := by rw [if_neg (show ¬ (false = true) by decide)] at H; exact H
        clear H
        have H := H1
        clear H1
        replace H := Option.bind_eq_some_iff.mp H
        obtain ⟨⟨t511, t512⟩, A60, H⟩ := H
        replace H : ((impl_HeapGraph.f kj2 t511 t512).bind fun bt517 => ((spec_HeapGraph.f kj2 t511 t512).bind fun bt523 => ((laws_leObjs.f kj2 bt517.1 bt523.1).bind fun t529 => (if t529 = true then ((laws_leVals.f kj2 bt517.2 bt523.2).bind fun t530 => (if t530 = true then ((spec_HeapOk.f kj2 t511 t512).bind fun t531 => (if t531 = true then (laws_FnGraphTurn.j1 kj2 l1 t511 t512 bt517.1 bt517.2 bt523.1 bt523.2 ((t511.length : Int) == 0)) else (laws_FnGraphTurn.j1 kj2 l1 t511 t512 bt517.1 bt517.2 bt523.1 bt523.2 true))) else (laws_FnGraphTurn.j1 kj2 l1 t511 t512 bt517.1 bt517.2 bt523.1 bt523.2 true))) else (laws_FnGraphTurn.j1 kj2 l1 t511 t512 bt517.1 bt517.2 bt523.1 bt523.2 true))))) = some r := H
        have A6 := Aside0.mk A60
        clear A60
        replace H := Option.bind_eq_some_iff.mp H
        obtain ⟨⟨t517, t518⟩, A70, H⟩ := H
        replace H : ((spec_HeapGraph.f kj2 t511 t512).bind fun bt523 => ((laws_leObjs.f kj2 t517 bt523.1).bind fun t529 => (if t529 = true then ((laws_leVals.f kj2 t518 bt523.2).bind fun t530 => (if t530 = true then ((spec_HeapOk.f kj2 t511 t512).bind fun t531 => (if t531 = true then (laws_FnGraphTurn.j1 kj2 l1 t511 t512 t517 t518 bt523.1 bt523.2 ((t511.length : Int) == 0)) else (laws_FnGraphTurn.j1 kj2 l1 t511 t512 t517 t518 bt523.1 bt523.2 true))) else (laws_FnGraphTurn.j1 kj2 l1 t511 t512 t517 t518 bt523.1 bt523.2 true))) else (laws_FnGraphTurn.j1 kj2 l1 t511 t512 t517 t518 bt523.1 bt523.2 true)))) = some r := H
        have A7 := Aside0.mk A70
        clear A70
        replace H := Option.bind_eq_some_iff.mp H
        obtain ⟨⟨t523, t524⟩, A80, H⟩ := H
        replace H : ((laws_leObjs.f kj2 t517 t523).bind fun t529 => (if t529 = true then ((laws_leVals.f kj2 t518 t524).bind fun t530 => (if t530 = true then ((spec_HeapOk.f kj2 t511 t512).bind fun t531 => (if t531 = true then (laws_FnGraphTurn.j1 kj2 l1 t511 t512 t517 t518 t523 t524 ((t511.length : Int) == 0)) else (laws_FnGraphTurn.j1 kj2 l1 t511 t512 t517 t518 t523 t524 true))) else (laws_FnGraphTurn.j1 kj2 l1 t511 t512 t517 t518 t523 t524 true))) else (laws_FnGraphTurn.j1 kj2 l1 t511 t512 t517 t518 t523 t524 true))) = some r := H
        have A8 := Aside0.mk A80
        clear A80
        have HC9 := Aside0.mk H
        clear H
        go_upto_region 6 with (first | ((with_reducible refine gate_callee (f := 29) rfl ?_); refine goesL_ (some 25) rfl rfl Try.func29 (by kernel_rfl) rfl #[.slice A0 l0.length c0] rfl (by (try simp only [List.map_toArray, List.map_cons, List.map_nil]); first | done | rfl | (simp only [List.length_drop, List.length_take]; rfl)) ?_; (with_reducible refine (spec_DrawHeapGraph.calls kj2 _ _ l0 t511 t512 _ ?side1 ?side2 A6.out).mono ?_); (case side1 => repeat (first | exact (Kd.C_below HR0.out HB.out) | (with_reducible refine Kd.C_alloc ?_ _) | (with_reducible refine Kd.C_drewN ?_ _) | (with_reducible refine Kd.C_drew ?_))); (case side2 => exact HC0.out); rintro e w10 ⟨v513, v515, rfl, ho0, ho1, hb⟩; refine ⟨_, rfl, ?_⟩; have n0_ := Aside0.mk (Kd.S_lower ho0 (below_size (by repeat (first | (with_reducible first | exact HB.out | apply below_alloc | apply pw_below_drewN | apply below_drew1) | exact HB.out)))); have n1_ := Aside0.mk (Kd.R_lower ho1 (below_size (by repeat (first | (with_reducible first | exact HB.out | apply below_alloc | apply pw_below_drewN | apply below_drew1) | exact HB.out)))); have n2_ := Aside0.mk (below_step (by repeat (first | (with_reducible first | exact HB.out | apply below_alloc | apply pw_below_drewN | apply below_drew1) | exact HB.out)) hb); clear HB; have HO514 := n0_; have HO516 := n1_; have HB := n2_; clear n0_ n1_ n2_; (try clear hb); (try clear hb2); (try clear hk); (try clear hi); (try clear ho0); (try clear ho1); obtain ⟨Ao11, co11, eo11⟩ := Kd.S_slice HO514.out; subst eo11; obtain ⟨Ao12, co12, eo12⟩ := Kd.R_slice HO516.out; subst eo12) | ((with_reducible refine gate_callee (f := 24) rfl ?_); refine goesL_ (some 31) rfl rfl Try.func24 (by kernel_rfl) rfl #[.slice Ao11 t511.length co11, .slice Ao12 t512.length co12] rfl (by (try simp only [List.map_toArray, List.map_cons, List.map_nil]); first | done | rfl | (simp only [List.length_drop, List.length_take]; rfl)) ?_; (with_reducible refine (impl_HeapGraph.calls kj2 _ _ t511 _ _ t512 t517 t518 _ ?side1 ?side2 ?side3 ?side4 A7.out).mono ?_); (case side1 => repeat (first | exact (Kd.S_reads' HO514.out).2.2 | (with_reducible refine Kd.C_alloc ?_ _) | (with_reducible refine Kd.C_drewN ?_ _) | (with_reducible refine Kd.C_drew ?_))); (case side2 => exact (Kd.S_reads' HO514.out).2.1); (case side3 => repeat (first | exact (Kd.R_reads' HO516.out).2.2 | (with_reducible refine Kd.C_alloc ?_ _) | (with_reducible refine Kd.C_drewN ?_ _) | (with_reducible refine Kd.C_drew ?_))); (case side4 => exact (Kd.R_reads' HO516.out).2.1); rintro e w13 ⟨v519, v521, rfl, ho0, ho1, hb⟩; refine ⟨_, rfl, ?_⟩; have n0_ := Aside0.mk (Kd.S_mono (Kd.S_told (Kd.S_told (Kd.S_old (by (with_reducible repeat (first | apply Kd.S_alloc | apply Kd.S_drewN | apply Kd.S_drew)); exact HO514.out) hb) (Kd.S_base ho0)) (Kd.R_base ho1)) (fun _ h_ => h_.1)); have n1_ := Aside0.mk (Kd.R_elder' (by (with_reducible repeat (first | apply Kd.R_alloc | apply Kd.R_drewN | apply Kd.R_drew)); exact HO516.out) (Kd.R_base ho1) hb); have n2_ := Aside0.mk (Kd.S_lower (Kd.S_new' (Kd.S_new' ho0 (Kd.S_lt (by (with_reducible repeat (first | apply Kd.S_alloc | apply Kd.S_drewN | apply Kd.S_drew)); exact HO514.out))) (Kd.R_lt (by (with_reducible repeat (first | apply Kd.R_alloc | apply Kd.R_drewN | apply Kd.R_drew)); exact HO516.out))) (below_size (by repeat (first | (with_reducible first | exact HB.out | apply below_alloc | apply pw_below_drewN | apply below_drew1) | exact HB.out)))); have n3_ := Aside0.mk (Kd.R_lower (Kd.R_new' ho1 (Kd.R_lt (by (with_reducible repeat (first | apply Kd.R_alloc | apply Kd.R_drewN | apply Kd.R_drew)); exact HO516.out))) (below_size (by repeat (first | (with_reducible first | exact HB.out | apply below_alloc | apply pw_below_drewN | apply below_drew1) | exact HB.out)))); have n4_ := Aside0.mk (below_step (by repeat (first | (with_reducible first | exact HB.out | apply below_alloc | apply pw_below_drewN | apply below_drew1) | exact HB.out)) hb); clear HO514; clear HO516; clear HB; have HO514 := n0_; have HO516 := n1_; have HO520 := n2_; have HO522 := n3_; have HB := n4_; clear n0_ n1_ n2_ n3_ n4_; (try clear hb); (try clear hb2); (try clear hk); (try clear hi); (try clear ho0); (try clear ho1)) | ((with_reducible refine gate_callee (f := 23) rfl ?_); refine goesL_ (some 37) rfl rfl Try.func23 (by kernel_rfl) rfl #[.slice Ao11 t511.length co11, .slice Ao12 t512.length co12] rfl (by (try simp only [List.map_toArray, List.map_cons, List.map_nil]); first | done | rfl | (simp only [List.length_drop, List.length_take]; rfl)) ?_; (with_reducible refine (spec_HeapGraph.calls kj2 _ _ t511 _ _ t512 t523 t524 _ ?side1 ?side2 ?side3 ?side4 A8.out).mono ?_); (case side1 => repeat (first | exact (Kd.S_reads' HO514.out).2.2 | (with_reducible refine Kd.C_alloc ?_ _) | (with_reducible refine Kd.C_drewN ?_ _) | (with_reducible refine Kd.C_drew ?_))); (case side2 => exact (Kd.S_reads' HO514.out).2.1); (case side3 => repeat (first | exact (Kd.R_reads' HO516.out).2.2 | (with_reducible refine Kd.C_alloc ?_ _) | (with_reducible refine Kd.C_drewN ?_ _) | (with_reducible refine Kd.C_drew ?_))); (case side4 => exact (Kd.R_reads' HO516.out).2.1); rintro e w14 ⟨v525, v527, rfl, ho0, ho1, hb⟩; refine ⟨_, rfl, ?_⟩; have n0_ := Aside0.mk (Kd.S_mono (Kd.S_told (Kd.S_told (Kd.S_old (by (with_reducible repeat (first | apply Kd.S_alloc | apply Kd.S_drewN | apply Kd.S_drew)); exact HO514.out) hb) (Kd.S_base ho0)) (Kd.R_base ho1)) (fun _ h_ => h_.1)); have n1_ := Aside0.mk (Kd.R_elder' (by (with_reducible repeat (first | apply Kd.R_alloc | apply Kd.R_drewN | apply Kd.R_drew)); exact HO516.out) (Kd.R_base ho1) hb); have n2_ := Aside0.mk (Kd.S_mono (Kd.S_told (Kd.S_told (Kd.S_old (by (with_reducible repeat (first | apply Kd.S_alloc | apply Kd.S_drewN | apply Kd.S_drew)); exact HO520.out) hb) (Kd.S_base ho0)) (Kd.R_base ho1)) (fun _ h_ => h_.1)); have n3_ := Aside0.mk (Kd.R_elder' (by (with_reducible repeat (first | apply Kd.R_alloc | apply Kd.R_drewN | apply Kd.R_drew)); exact HO522.out) (Kd.R_base ho1) hb); have n4_ := Aside0.mk (Kd.S_lower (Kd.S_new' (Kd.S_new' (Kd.S_new' (Kd.S_new' ho0 (Kd.S_lt (by (with_reducible repeat (first | apply Kd.S_alloc | apply Kd.S_drewN | apply Kd.S_drew)); exact HO514.out))) (Kd.R_lt (by (with_reducible repeat (first | apply Kd.R_alloc | apply Kd.R_drewN | apply Kd.R_drew)); exact HO516.out))) (Kd.S_lt (by (with_reducible repeat (first | apply Kd.S_alloc | apply Kd.S_drewN | apply Kd.S_drew)); exact HO520.out))) (Kd.R_lt (by (with_reducible repeat (first | apply Kd.R_alloc | apply Kd.R_drewN | apply Kd.R_drew)); exact HO522.out))) (below_size (by repeat (first | (with_reducible first | exact HB.out | apply below_alloc | apply pw_below_drewN | apply below_drew1) | exact HB.out)))); have n5_ := Aside0.mk (Kd.R_lower (Kd.R_new' (Kd.R_new' ho1 (Kd.R_lt (by (with_reducible repeat (first | apply Kd.R_alloc | apply Kd.R_drewN | apply Kd.R_drew)); exact HO516.out))) (Kd.R_lt (by (with_reducible repeat (first | apply Kd.R_alloc | apply Kd.R_drewN | apply Kd.R_drew)); exact HO522.out))) (below_size (by repeat (first | (with_reducible first | exact HB.out | apply below_alloc | apply pw_below_drewN | apply below_drew1) | exact HB.out)))); have n6_ := Aside0.mk (below_step (by repeat (first | (with_reducible first | exact HB.out | apply below_alloc | apply pw_below_drewN | apply below_drew1) | exact HB.out)) hb); clear HO514; clear HO516; clear HO520; clear HO522; clear HB; have HO514 := n0_; have HO516 := n1_; have HO520 := n2_; have HO522 := n3_; have HO526 := n4_; have HO528 := n5_; have HB := n6_; clear n0_ n1_ n2_ n3_ n4_ n5_ n6_; (try clear hb); (try clear hb2); (try clear hk); (try clear hi); (try clear ho0); (try clear ho1)))
        (try simp only [Act.put, List.setIfInBounds_toArray, List.set_cons_zero, List.set_cons_succ])
        go_cut [60] (fun v60 wc => ∃ (kq : Nat) (x60_8 : Bool), v60 = .bool x60_8 ∧ Aside0 (laws_FnGraphTurn.j1 kq l1 t511 t512 t517 t518 t523 t524 x60_8 = some r) ∧ Aside0 (kq ≤ kj2) ∧ Aside0 (Kd.S k48 48 wc w.heap.size (fun k_ => some k_ ≠ ((.slice Ao12 t512.length co12) : Value).ownBlock ∧ some k_ ≠ (v519 : Value).ownBlock ∧ some k_ ≠ (v521 : Value).ownBlock ∧ some k_ ≠ (v525 : Value).ownBlock ∧ some k_ ≠ (v527 : Value).ownBlock) (.slice Ao11 t511.length co11) t511) ∧ Aside0 (Kd.R k46 46 wc w.heap.size (fun k_ => some k_ ≠ (v521 : Value).ownBlock ∧ some k_ ≠ (v527 : Value).ownBlock) (.slice Ao12 t512.length co12) t512) ∧ Aside0 (Kd.S k48 48 wc w.heap.size (fun k_ => some k_ ≠ ((.slice Ao11 t511.length co11) : Value).ownBlock ∧ some k_ ≠ ((.slice Ao12 t512.length co12) : Value).ownBlock ∧ some k_ ≠ (v521 : Value).ownBlock ∧ some k_ ≠ (v525 : Value).ownBlock ∧ some k_ ≠ (v527 : Value).ownBlock) v519 t517) ∧ Aside0 (Kd.R k46 46 wc w.heap.size (fun k_ => some k_ ≠ ((.slice Ao12 t512.length co12) : Value).ownBlock ∧ some k_ ≠ (v527 : Value).ownBlock) v521 t518) ∧ Aside0 (Kd.S k48 48 wc w.heap.size (fun k_ => some k_ ≠ ((.slice Ao11 t511.length co11) : Value).ownBlock ∧ some k_ ≠ ((.slice Ao12 t512.length co12) : Value).ownBlock ∧ some k_ ≠ (v519 : Value).ownBlock ∧ some k_ ≠ (v521 : Value).ownBlock ∧ some k_ ≠ (v527 : Value).ownBlock) v525 t523) ∧ Aside0 (Kd.R k46 46 wc w.heap.size (fun k_ => some k_ ≠ ((.slice Ao12 t512.length co12) : Value).ownBlock ∧ some k_ ≠ (v521 : Value).ownBlock) v527 t524) ∧ Aside0 (Below w.heap.size w wc))
        case first =>
          have H := HC9.out
          clear HC9
          replace H := Option.bind_eq_some_iff.mp H
          obtain ⟨t529, A150, H⟩ := H
          replace H : (if t529 = true then ((laws_leVals.f kj2 t518 t524).bind fun t530 => (if t530 = true then ((spec_HeapOk.f kj2 t511 t512).bind fun t531 => (if t531 = true then (laws_FnGraphTurn.j1 kj2 l1 t511 t512 t517 t518 t523 t524 ((t511.length : Int) == 0)) else (laws_FnGraphTurn.j1 kj2 l1 t511 t512 t517 t518 t523 t524 true))) else (laws_FnGraphTurn.j1 kj2 l1 t511 t512 t517 t518 t523 t524 true))) else (laws_FnGraphTurn.j1 kj2 l1 t511 t512 t517 t518 t523 t524 true)) = some r := H
          have A15 := Aside0.mk A150
          clear A150
          by_cases c16 : t529 = true
          · subst c16
            have H1 : ((laws_leVals.f kj2 t518 t524).bind fun t530 => (if t530 = true then ((spec_HeapOk.f kj2 t511 t512).bind fun t531 => (if t531 = true then (laws_FnGraphTurn.j1 kj2 l1 t511 t512 t517 t518 t523 t524 ((t511.length : Int) == 0)) else (laws_FnGraphTurn.j1 kj2 l1 t511 t512 t517 t518 t523 t524 true))) else (laws_FnGraphTurn.j1 kj2 l1 t511 t512 t517 t518 t523 t524 true))) = some r := by rw [if_pos rfl] at H; exact H
            clear H
            have H := H1
            clear H1
            replace H := Option.bind_eq_some_iff.mp H
            obtain ⟨t530, A170, H⟩ := H
            replace H : (if t530 = true then ((spec_HeapOk.f kj2 t511 t512).bind fun t531 => (if t531 = true then (laws_FnGraphTurn.j1 kj2 l1 t511 t512 t517 t518 t523 t524 ((t511.length : Int) == 0)) else (laws_FnGraphTurn.j1 kj2 l1 t511 t512 t517 t518 t523 t524 true))) else (laws_FnGraphTurn.j1 kj2 l1 t511 t512 t517 t518 t523 t524 true)) = some r := H
            have A17 := Aside0.mk A170
            clear A170
            by_cases c18 : t530 = true
            · subst c18
              have H1 : ((spec_HeapOk.f kj2 t511 t512).bind fun t531 => (if t531 = true then (laws_FnGraphTurn.j1 kj2 l1 t511 t512 t517 t518 t523 t524 ((t511.length : Int) == 0)) else (laws_FnGraphTurn.j1 kj2 l1 t511 t512 t517 t518 t523 t524 true))) = some r := by rw [if_pos rfl] at H; exact H
              clear H
              have H := H1
              clear H1
              replace H := Option.bind_eq_some_iff.mp H
              obtain ⟨t531, A190, H⟩ := H
              replace H : (if t531 = true then (laws_FnGraphTurn.j1 kj2 l1 t511 t512 t517 t518 t523 t524 ((t511.length : Int) == 0)) else (laws_FnGraphTurn.j1 kj2 l1 t511 t512 t517 t518 t523 t524 true)) = some r := H
              have A19 := Aside0.mk A190
              clear A190
              by_cases c20 : t531 = true
              · subst c20
                have H1 : (laws_FnGraphTurn.j1 kj2 l1 t511 t512 t517 t518 t523 t524 ((t511.length : Int) == 0)) = some r := by rw [if_pos rfl] at H; exact H
                clear H
                have H := H1
                clear H1
                have H' := Aside0.mk H
                clear H
                obtain ⟨Ao21, co21, eo21⟩ := Kd.S_slice HO520.out
                subst eo21
                obtain ⟨Ao22, co22, eo22⟩ := Kd.S_slice HO526.out
                subst eo22
                go_wp2_with (first | ((with_reducible refine gate_callee (f := 30) rfl ?_); refine goesL_ (some 42) rfl rfl Try.func30 (by kernel_rfl) rfl #[.slice Ao21 t517.length co21, .slice Ao22 t523.length co22] rfl (by (try simp only [List.map_toArray, List.map_cons, List.map_nil]); first | done | rfl | (simp only [List.length_drop, List.length_take]; rfl)) ?_; (with_reducible refine (laws_leObjs.calls kj2 _ _ t517 _ _ t523 true _ ?side1 ?side2 ?side3 ?side4 A15.out).mono ?_); (case side1 => repeat (first | exact (Kd.S_reads' HO520.out).2.2 | (with_reducible refine Kd.C_alloc ?_ _) | (with_reducible refine Kd.C_drewN ?_ _) | (with_reducible refine Kd.C_drew ?_))); (case side2 => exact (Kd.S_reads' HO520.out).2.1); (case side3 => repeat (first | exact (Kd.S_reads' HO526.out).2.2 | (with_reducible refine Kd.C_alloc ?_ _) | (with_reducible refine Kd.C_drewN ?_ _) | (with_reducible refine Kd.C_drew ?_))); (case side4 => exact (Kd.S_reads' HO526.out).2.1); rintro e w' ⟨rfl, ⟨nd, rfl⟩⟩; refine ⟨_, rfl, ?_⟩; obtain ⟨Ao23, co23, eo23⟩ := Kd.R_slice HO522.out; subst eo23; obtain ⟨Ao24, co24, eo24⟩ := Kd.R_slice HO528.out; subst eo24) | (go_at_call 31; (with_reducible refine (laws_leVals.calls kj2 _ _ t518 _ _ t524 true _ ?side1 ?side2 ?side3 ?side4 A17.out).mono ?_); (case side1 => repeat (first | exact (Kd.R_reads' HO522.out).2.2 | (with_reducible refine Kd.C_alloc ?_ _) | (with_reducible refine Kd.C_drewN ?_ _) | (with_reducible refine Kd.C_drew ?_))); (case side2 => exact (Kd.R_reads' HO522.out).2.1); (case side3 => repeat (first | exact (Kd.R_reads' HO528.out).2.2 | (with_reducible refine Kd.C_alloc ?_ _) | (with_reducible refine Kd.C_drewN ?_ _) | (with_reducible refine Kd.C_drew ?_))); (case side4 => exact (Kd.R_reads' HO528.out).2.1); rintro e w' ⟨rfl, ⟨nd, rfl⟩⟩) | (go_at_call 17; (with_reducible refine (spec_HeapOk.calls kj2 _ _ t511 _ _ t512 true _ ?side1 ?side2 ?side3 ?side4 A19.out).mono ?_); (case side1 => repeat (first | exact (Kd.S_reads' HO514.out).2.2 | (with_reducible refine Kd.C_alloc ?_ _) | (with_reducible refine Kd.C_drewN ?_ _) | (with_reducible refine Kd.C_drew ?_))); (case side2 => exact (Kd.S_reads' HO514.out).2.1); (case side3 => repeat (first | exact (Kd.R_reads' HO516.out).2.2 | (with_reducible refine Kd.C_alloc ?_ _) | (with_reducible refine Kd.C_drewN ?_ _) | (with_reducible refine Kd.C_drew ?_))); (case side4 => exact (Kd.R_reads' HO516.out).2.1); rintro e w25 ⟨rfl, hb⟩; have n0_ := Aside0.mk (Kd.S_below (by (with_reducible repeat (first | apply Kd.S_alloc | apply Kd.S_drewN | apply Kd.S_drew)); exact HO514.out) hb); have n1_ := Aside0.mk (Kd.R_below (by (with_reducible repeat (first | apply Kd.R_alloc | apply Kd.R_drewN | apply Kd.R_drew)); exact HO516.out) hb); have n2_ := Aside0.mk (Kd.S_below (by (with_reducible repeat (first | apply Kd.S_alloc | apply Kd.S_drewN | apply Kd.S_drew)); exact HO520.out) hb); have n3_ := Aside0.mk (Kd.R_below (by (with_reducible repeat (first | apply Kd.R_alloc | apply Kd.R_drewN | apply Kd.R_drew)); exact HO522.out) hb); have n4_ := Aside0.mk (Kd.S_below (by (with_reducible repeat (first | apply Kd.S_alloc | apply Kd.S_drewN | apply Kd.S_drew)); exact HO526.out) hb); have n5_ := Aside0.mk (Kd.R_below (by (with_reducible repeat (first | apply Kd.R_alloc | apply Kd.R_drewN | apply Kd.R_drew)); exact HO528.out) hb); have n6_ := Aside0.mk (below_step (by repeat (first | (with_reducible first | exact HB.out | apply below_alloc | apply pw_below_drewN | apply below_drew1) | exact HB.out)) hb); clear HO514; clear HO516; clear HO520; clear HO522; clear HO526; clear HO528; clear HB; have HO514 := n0_; have HO516 := n1_; have HO520 := n2_; have HO522 := n3_; have HO526 := n4_; have HO528 := n5_; have HB := n6_; clear n0_ n1_ n2_ n3_ n4_ n5_ n6_; (try clear hb); (try clear hb2); (try clear hk); (try clear hi)))
                go_meet
                case rel => exact ⟨_, (((t511.length : Int) == 0)), (by first | rfl | (simp; done) | (simp [*]; done)), H', ⟨by have := HJ2.out; first | omega | exact Nat.le_refl _⟩, ⟨by (with_reducible repeat (first | apply Kd.S_alloc | apply Kd.S_drewN | apply Kd.S_drew)); exact Kd.S_mono HO514.out (fun _ hk => ⟨hk.1.1.1.1, ⟨hk.1.1.1.2, ⟨hk.1.1.2, ⟨hk.1.2, hk.2⟩⟩⟩⟩)⟩, ⟨by (with_reducible repeat (first | apply Kd.R_alloc | apply Kd.R_drewN | apply Kd.R_drew)); exact Kd.R_mono HO516.out (fun _ hk => ⟨hk.1.2, hk.2⟩)⟩, ⟨by (with_reducible repeat (first | apply Kd.S_alloc | apply Kd.S_drewN | apply Kd.S_drew)); exact Kd.S_mono HO520.out (fun _ hk => ⟨hk.1.1.1.2, ⟨hk.1.1.2, ⟨hk.1.1.1.1, ⟨hk.1.2, hk.2⟩⟩⟩⟩)⟩, ⟨by (with_reducible repeat (first | apply Kd.R_alloc | apply Kd.R_drewN | apply Kd.R_drew)); exact Kd.R_mono HO522.out (fun _ hk => ⟨hk.1.2, hk.2⟩)⟩, ⟨by (with_reducible repeat (first | apply Kd.S_alloc | apply Kd.S_drewN | apply Kd.S_drew)); exact Kd.S_mono HO526.out (fun _ hk => ⟨hk.1.1.1.2, ⟨hk.1.1.2, ⟨hk.1.2, ⟨hk.2, hk.1.1.1.1⟩⟩⟩⟩)⟩, ⟨by (with_reducible repeat (first | apply Kd.R_alloc | apply Kd.R_drewN | apply Kd.R_drew)); exact Kd.R_mono HO528.out (fun _ hk => ⟨hk.1.2, hk.2⟩)⟩, ⟨by repeat (first | (with_reducible first | exact HB.out | apply below_alloc | apply pw_below_drewN | apply below_drew1) | exact HB.out)⟩⟩
              · replace c20 := Bool.eq_false_iff.mpr c20
                subst c20
                have H1 : (laws_FnGraphTurn.j1 kj2 l1 t511 t512 t517 t518 t523 t524 true) = some r := by rw [if_neg (show ¬ (false = true) by decide)] at H; exact H
                clear H
                have H := H1
                clear H1
                have H' := Aside0.mk H
                clear H
                obtain ⟨Ao26, co26, eo26⟩ := Kd.S_slice HO520.out
                subst eo26
                obtain ⟨Ao27, co27, eo27⟩ := Kd.S_slice HO526.out
                subst eo27
                go_wp2_with (first | ((with_reducible refine gate_callee (f := 30) rfl ?_); refine goesL_ (some 42) rfl rfl Try.func30 (by kernel_rfl) rfl #[.slice Ao26 t517.length co26, .slice Ao27 t523.length co27] rfl (by (try simp only [List.map_toArray, List.map_cons, List.map_nil]); first | done | rfl | (simp only [List.length_drop, List.length_take]; rfl)) ?_; (with_reducible refine (laws_leObjs.calls kj2 _ _ t517 _ _ t523 true _ ?side1 ?side2 ?side3 ?side4 A15.out).mono ?_); (case side1 => repeat (first | exact (Kd.S_reads' HO520.out).2.2 | (with_reducible refine Kd.C_alloc ?_ _) | (with_reducible refine Kd.C_drewN ?_ _) | (with_reducible refine Kd.C_drew ?_))); (case side2 => exact (Kd.S_reads' HO520.out).2.1); (case side3 => repeat (first | exact (Kd.S_reads' HO526.out).2.2 | (with_reducible refine Kd.C_alloc ?_ _) | (with_reducible refine Kd.C_drewN ?_ _) | (with_reducible refine Kd.C_drew ?_))); (case side4 => exact (Kd.S_reads' HO526.out).2.1); rintro e w' ⟨rfl, ⟨nd, rfl⟩⟩; refine ⟨_, rfl, ?_⟩; obtain ⟨Ao28, co28, eo28⟩ := Kd.R_slice HO522.out; subst eo28; obtain ⟨Ao29, co29, eo29⟩ := Kd.R_slice HO528.out; subst eo29) | (go_at_call 31; (with_reducible refine (laws_leVals.calls kj2 _ _ t518 _ _ t524 true _ ?side1 ?side2 ?side3 ?side4 A17.out).mono ?_); (case side1 => repeat (first | exact (Kd.R_reads' HO522.out).2.2 | (with_reducible refine Kd.C_alloc ?_ _) | (with_reducible refine Kd.C_drewN ?_ _) | (with_reducible refine Kd.C_drew ?_))); (case side2 => exact (Kd.R_reads' HO522.out).2.1); (case side3 => repeat (first | exact (Kd.R_reads' HO528.out).2.2 | (with_reducible refine Kd.C_alloc ?_ _) | (with_reducible refine Kd.C_drewN ?_ _) | (with_reducible refine Kd.C_drew ?_))); (case side4 => exact (Kd.R_reads' HO528.out).2.1); rintro e w' ⟨rfl, ⟨nd, rfl⟩⟩) | (go_at_call 17; (with_reducible refine (spec_HeapOk.calls kj2 _ _ t511 _ _ t512 false _ ?side1 ?side2 ?side3 ?side4 A19.out).mono ?_); (case side1 => repeat (first | exact (Kd.S_reads' HO514.out).2.2 | (with_reducible refine Kd.C_alloc ?_ _) | (with_reducible refine Kd.C_drewN ?_ _) | (with_reducible refine Kd.C_drew ?_))); (case side2 => exact (Kd.S_reads' HO514.out).2.1); (case side3 => repeat (first | exact (Kd.R_reads' HO516.out).2.2 | (with_reducible refine Kd.C_alloc ?_ _) | (with_reducible refine Kd.C_drewN ?_ _) | (with_reducible refine Kd.C_drew ?_))); (case side4 => exact (Kd.R_reads' HO516.out).2.1); rintro e w30 ⟨rfl, hb⟩; have n0_ := Aside0.mk (Kd.S_below (by (with_reducible repeat (first | apply Kd.S_alloc | apply Kd.S_drewN | apply Kd.S_drew)); exact HO514.out) hb); have n1_ := Aside0.mk (Kd.R_below (by (with_reducible repeat (first | apply Kd.R_alloc | apply Kd.R_drewN | apply Kd.R_drew)); exact HO516.out) hb); have n2_ := Aside0.mk (Kd.S_below (by (with_reducible repeat (first | apply Kd.S_alloc | apply Kd.S_drewN | apply Kd.S_drew)); exact HO520.out) hb); have n3_ := Aside0.mk (Kd.R_below (by (with_reducible repeat (first | apply Kd.R_alloc | apply Kd.R_drewN | apply Kd.R_drew)); exact HO522.out) hb); have n4_ := Aside0.mk (Kd.S_below (by (with_reducible repeat (first | apply Kd.S_alloc | apply Kd.S_drewN | apply Kd.S_drew)); exact HO526.out) hb); have n5_ := Aside0.mk (Kd.R_below (by (with_reducible repeat (first | apply Kd.R_alloc | apply Kd.R_drewN | apply Kd.R_drew)); exact HO528.out) hb); have n6_ := Aside0.mk (below_step (by repeat (first | (with_reducible first | exact HB.out | apply below_alloc | apply pw_below_drewN | apply below_drew1) | exact HB.out)) hb); clear HO514; clear HO516; clear HO520; clear HO522; clear HO526; clear HO528; clear HB; have HO514 := n0_; have HO516 := n1_; have HO520 := n2_; have HO522 := n3_; have HO526 := n4_; have HO528 := n5_; have HB := n6_; clear n0_ n1_ n2_ n3_ n4_ n5_ n6_; (try clear hb); (try clear hb2); (try clear hk); (try clear hi)))
                go_meet
                case rel => exact ⟨_, (true), (by first | rfl | (simp; done) | (simp [*]; done)), H', ⟨by have := HJ2.out; first | omega | exact Nat.le_refl _⟩, ⟨by (with_reducible repeat (first | apply Kd.S_alloc | apply Kd.S_drewN | apply Kd.S_drew)); exact Kd.S_mono HO514.out (fun _ hk => ⟨hk.1.1.1.1, ⟨hk.1.1.1.2, ⟨hk.1.1.2, ⟨hk.1.2, hk.2⟩⟩⟩⟩)⟩, ⟨by (with_reducible repeat (first | apply Kd.R_alloc | apply Kd.R_drewN | apply Kd.R_drew)); exact Kd.R_mono HO516.out (fun _ hk => ⟨hk.1.2, hk.2⟩)⟩, ⟨by (with_reducible repeat (first | apply Kd.S_alloc | apply Kd.S_drewN | apply Kd.S_drew)); exact Kd.S_mono HO520.out (fun _ hk => ⟨hk.1.1.1.2, ⟨hk.1.1.2, ⟨hk.1.1.1.1, ⟨hk.1.2, hk.2⟩⟩⟩⟩)⟩, ⟨by (with_reducible repeat (first | apply Kd.R_alloc | apply Kd.R_drewN | apply Kd.R_drew)); exact Kd.R_mono HO522.out (fun _ hk => ⟨hk.1.2, hk.2⟩)⟩, ⟨by (with_reducible repeat (first | apply Kd.S_alloc | apply Kd.S_drewN | apply Kd.S_drew)); exact Kd.S_mono HO526.out (fun _ hk => ⟨hk.1.1.1.2, ⟨hk.1.1.2, ⟨hk.1.2, ⟨hk.2, hk.1.1.1.1⟩⟩⟩⟩)⟩, ⟨by (with_reducible repeat (first | apply Kd.R_alloc | apply Kd.R_drewN | apply Kd.R_drew)); exact Kd.R_mono HO528.out (fun _ hk => ⟨hk.1.2, hk.2⟩)⟩, ⟨by repeat (first | (with_reducible first | exact HB.out | apply below_alloc | apply pw_below_drewN | apply below_drew1) | exact HB.out)⟩⟩
            · replace c18 := Bool.eq_false_iff.mpr c18
              subst c18
              have H1 : (laws_FnGraphTurn.j1 kj2 l1 t511 t512 t517 t518 t523 t524 true) = some r := by rw [if_neg (show ¬ (false = true) by decide)] at H; exact H
              clear H
              have H := H1
              clear H1
              have H' := Aside0.mk H
              clear H
              obtain ⟨Ao31, co31, eo31⟩ := Kd.S_slice HO520.out
              subst eo31
              obtain ⟨Ao32, co32, eo32⟩ := Kd.S_slice HO526.out
              subst eo32
              go_wp2_with (first | ((with_reducible refine gate_callee (f := 30) rfl ?_); refine goesL_ (some 42) rfl rfl Try.func30 (by kernel_rfl) rfl #[.slice Ao31 t517.length co31, .slice Ao32 t523.length co32] rfl (by (try simp only [List.map_toArray, List.map_cons, List.map_nil]); first | done | rfl | (simp only [List.length_drop, List.length_take]; rfl)) ?_; (with_reducible refine (laws_leObjs.calls kj2 _ _ t517 _ _ t523 true _ ?side1 ?side2 ?side3 ?side4 A15.out).mono ?_); (case side1 => repeat (first | exact (Kd.S_reads' HO520.out).2.2 | (with_reducible refine Kd.C_alloc ?_ _) | (with_reducible refine Kd.C_drewN ?_ _) | (with_reducible refine Kd.C_drew ?_))); (case side2 => exact (Kd.S_reads' HO520.out).2.1); (case side3 => repeat (first | exact (Kd.S_reads' HO526.out).2.2 | (with_reducible refine Kd.C_alloc ?_ _) | (with_reducible refine Kd.C_drewN ?_ _) | (with_reducible refine Kd.C_drew ?_))); (case side4 => exact (Kd.S_reads' HO526.out).2.1); rintro e w' ⟨rfl, ⟨nd, rfl⟩⟩; refine ⟨_, rfl, ?_⟩; obtain ⟨Ao33, co33, eo33⟩ := Kd.R_slice HO522.out; subst eo33; obtain ⟨Ao34, co34, eo34⟩ := Kd.R_slice HO528.out; subst eo34) | (go_at_call 31; (with_reducible refine (laws_leVals.calls kj2 _ _ t518 _ _ t524 false _ ?side1 ?side2 ?side3 ?side4 A17.out).mono ?_); (case side1 => repeat (first | exact (Kd.R_reads' HO522.out).2.2 | (with_reducible refine Kd.C_alloc ?_ _) | (with_reducible refine Kd.C_drewN ?_ _) | (with_reducible refine Kd.C_drew ?_))); (case side2 => exact (Kd.R_reads' HO522.out).2.1); (case side3 => repeat (first | exact (Kd.R_reads' HO528.out).2.2 | (with_reducible refine Kd.C_alloc ?_ _) | (with_reducible refine Kd.C_drewN ?_ _) | (with_reducible refine Kd.C_drew ?_))); (case side4 => exact (Kd.R_reads' HO528.out).2.1); rintro e w' ⟨rfl, ⟨nd, rfl⟩⟩))
              go_meet
              case rel => exact ⟨_, (true), (by first | rfl | (simp; done) | (simp [*]; done)), H', ⟨by have := HJ2.out; first | omega | exact Nat.le_refl _⟩, ⟨by (with_reducible repeat (first | apply Kd.S_alloc | apply Kd.S_drewN | apply Kd.S_drew)); exact Kd.S_mono HO514.out (fun _ hk => ⟨hk.1.1.1.1, ⟨hk.1.1.1.2, ⟨hk.1.1.2, ⟨hk.1.2, hk.2⟩⟩⟩⟩)⟩, ⟨by (with_reducible repeat (first | apply Kd.R_alloc | apply Kd.R_drewN | apply Kd.R_drew)); exact Kd.R_mono HO516.out (fun _ hk => ⟨hk.1.2, hk.2⟩)⟩, ⟨by (with_reducible repeat (first | apply Kd.S_alloc | apply Kd.S_drewN | apply Kd.S_drew)); exact Kd.S_mono HO520.out (fun _ hk => ⟨hk.1.1.1.2, ⟨hk.1.1.2, ⟨hk.1.1.1.1, ⟨hk.1.2, hk.2⟩⟩⟩⟩)⟩, ⟨by (with_reducible repeat (first | apply Kd.R_alloc | apply Kd.R_drewN | apply Kd.R_drew)); exact Kd.R_mono HO522.out (fun _ hk => ⟨hk.1.2, hk.2⟩)⟩, ⟨by (with_reducible repeat (first | apply Kd.S_alloc | apply Kd.S_drewN | apply Kd.S_drew)); exact Kd.S_mono HO526.out (fun _ hk => ⟨hk.1.1.1.2, ⟨hk.1.1.2, ⟨hk.1.2, ⟨hk.2, hk.1.1.1.1⟩⟩⟩⟩)⟩, ⟨by (with_reducible repeat (first | apply Kd.R_alloc | apply Kd.R_drewN | apply Kd.R_drew)); exact Kd.R_mono HO528.out (fun _ hk => ⟨hk.1.2, hk.2⟩)⟩, ⟨by repeat (first | (with_reducible first | exact HB.out | apply below_alloc | apply pw_below_drewN | apply below_drew1) | exact HB.out)⟩⟩
          · replace c16 := Bool.eq_false_iff.mpr c16
            subst c16
            have H1 : (laws_FnGraphTurn.j1 kj2 l1 t511 t512 t517 t518 t523 t524 true) = some r := by rw [if_neg (show ¬ (false = true) by decide)] at H; exact H
            clear H
            have H := H1
            clear H1
            have H' := Aside0.mk H
            clear H
            obtain ⟨Ao35, co35, eo35⟩ := Kd.S_slice HO520.out
            subst eo35
            obtain ⟨Ao36, co36, eo36⟩ := Kd.S_slice HO526.out
            subst eo36
            go_wp2_with (first | ((with_reducible refine gate_callee (f := 30) rfl ?_); refine goesL_ (some 42) rfl rfl Try.func30 (by kernel_rfl) rfl #[.slice Ao35 t517.length co35, .slice Ao36 t523.length co36] rfl (by (try simp only [List.map_toArray, List.map_cons, List.map_nil]); first | done | rfl | (simp only [List.length_drop, List.length_take]; rfl)) ?_; (with_reducible refine (laws_leObjs.calls kj2 _ _ t517 _ _ t523 false _ ?side1 ?side2 ?side3 ?side4 A15.out).mono ?_); (case side1 => repeat (first | exact (Kd.S_reads' HO520.out).2.2 | (with_reducible refine Kd.C_alloc ?_ _) | (with_reducible refine Kd.C_drewN ?_ _) | (with_reducible refine Kd.C_drew ?_))); (case side2 => exact (Kd.S_reads' HO520.out).2.1); (case side3 => repeat (first | exact (Kd.S_reads' HO526.out).2.2 | (with_reducible refine Kd.C_alloc ?_ _) | (with_reducible refine Kd.C_drewN ?_ _) | (with_reducible refine Kd.C_drew ?_))); (case side4 => exact (Kd.S_reads' HO526.out).2.1); rintro e w' ⟨rfl, ⟨nd, rfl⟩⟩; refine ⟨_, rfl, ?_⟩))
            go_meet
            case rel => exact ⟨_, (true), (by first | rfl | (simp; done) | (simp [*]; done)), H', ⟨by have := HJ2.out; first | omega | exact Nat.le_refl _⟩, ⟨by (with_reducible repeat (first | apply Kd.S_alloc | apply Kd.S_drewN | apply Kd.S_drew)); exact Kd.S_mono HO514.out (fun _ hk => ⟨hk.1.1.1.1, ⟨hk.1.1.1.2, ⟨hk.1.1.2, ⟨hk.1.2, hk.2⟩⟩⟩⟩)⟩, ⟨by (with_reducible repeat (first | apply Kd.R_alloc | apply Kd.R_drewN | apply Kd.R_drew)); exact Kd.R_mono HO516.out (fun _ hk => ⟨hk.1.2, hk.2⟩)⟩, ⟨by (with_reducible repeat (first | apply Kd.S_alloc | apply Kd.S_drewN | apply Kd.S_drew)); exact Kd.S_mono HO520.out (fun _ hk => ⟨hk.1.1.1.2, ⟨hk.1.1.2, ⟨hk.1.1.1.1, ⟨hk.1.2, hk.2⟩⟩⟩⟩)⟩, ⟨by (with_reducible repeat (first | apply Kd.R_alloc | apply Kd.R_drewN | apply Kd.R_drew)); exact Kd.R_mono HO522.out (fun _ hk => ⟨hk.1.2, hk.2⟩)⟩, ⟨by (with_reducible repeat (first | apply Kd.S_alloc | apply Kd.S_drewN | apply Kd.S_drew)); exact Kd.S_mono HO526.out (fun _ hk => ⟨hk.1.1.1.2, ⟨hk.1.1.2, ⟨hk.1.2, ⟨hk.2, hk.1.1.1.1⟩⟩⟩⟩)⟩, ⟨by (with_reducible repeat (first | apply Kd.R_alloc | apply Kd.R_drewN | apply Kd.R_drew)); exact Kd.R_mono HO528.out (fun _ hk => ⟨hk.1.2, hk.2⟩)⟩, ⟨by repeat (first | (with_reducible first | exact HB.out | apply below_alloc | apply pw_below_drewN | apply below_drew1) | exact HB.out)⟩⟩
        case rest =>
          clear HC9
          try clear c1
          try clear c2
          try clear p2
          try clear c3
          try clear c4
          try clear c4b0
          try clear c4b1
          try clear c5
          try clear c11
          try clear c16
          try clear c18
          try clear c20
          try clear c23
          try clear c24
          try clear c29
          try clear c30
          try clear p2
          obtain ⟨kq, x60_8, rfl, HA, HJ8, HO_5, HO_6, HO_7, HO_8, HO_9, HO_10, HB⟩ := hcut
          cases kq with
          | zero => exact absurd HA.out (by simp [laws_FnGraphTurn.j1])
          | succ kj8 =>
            have H := HA.out
            clear HA
            simp only [laws_FnGraphTurn.j1] at H
            by_cases c37 : x60_8 = true
            · subst c37
              have H1 : ((laws_leObjs.f kj8 t517 t523).bind fun t532 => (if t532 = true then ((laws_leVals.f kj8 t518 t524).bind fun t533 => (some t533)) else (some false))) = some r := by rw [if_pos rfl] at H; exact H
              clear H
              have H := H1
              clear H1
              replace H := Option.bind_eq_some_iff.mp H
              obtain ⟨t532, A380, H⟩ := H
              replace H : (if t532 = true then ((laws_leVals.f kj8 t518 t524).bind fun t533 => (some t533)) else (some false)) = some r := H
              have A38 := Aside0.mk A380
              clear A380
              by_cases c39 : t532 = true
              · subst c39
                have H1 : ((laws_leVals.f kj8 t518 t524).bind fun t533 => (some t533)) = some r := by rw [if_pos rfl] at H; exact H
                clear H
                have H := H1
                clear H1
                replace H := Option.bind_eq_some_iff.mp H
                obtain ⟨t533, A400, H⟩ := H
                replace H : (some t533) = some r := H
                have A40 := Aside0.mk A400
                clear A400
                obtain rfl := Option.some.inj H
                simp only [Option.some.injEq, Prod.mk.injEq] at H
                obtain ⟨rfl⟩ := H
                obtain ⟨Ao41, co41, eo41⟩ := Kd.S_slice HO_7.out
                subst eo41
                obtain ⟨Ao42, co42, eo42⟩ := Kd.S_slice HO_9.out
                subst eo42
                go_wp2_with (first | ((with_reducible refine gate_callee (f := 30) rfl ?_); refine goesL_ (some 63) rfl rfl Try.func30 (by kernel_rfl) rfl #[.slice Ao41 t517.length co41, .slice Ao42 t523.length co42] rfl (by (try simp only [List.map_toArray, List.map_cons, List.map_nil]); first | done | rfl | (simp only [List.length_drop, List.length_take]; rfl)) ?_; (with_reducible refine (laws_leObjs.calls kj8 _ _ t517 _ _ t523 true _ ?side1 ?side2 ?side3 ?side4 A38.out).mono ?_); (case side1 => repeat (first | exact (Kd.S_reads' HO_7.out).2.2 | (with_reducible refine Kd.C_alloc ?_ _) | (with_reducible refine Kd.C_drewN ?_ _) | (with_reducible refine Kd.C_drew ?_))); (case side2 => exact (Kd.S_reads' HO_7.out).2.1); (case side3 => repeat (first | exact (Kd.S_reads' HO_9.out).2.2 | (with_reducible refine Kd.C_alloc ?_ _) | (with_reducible refine Kd.C_drewN ?_ _) | (with_reducible refine Kd.C_drew ?_))); (case side4 => exact (Kd.S_reads' HO_9.out).2.1); rintro e w' ⟨rfl, ⟨nd, rfl⟩⟩; refine ⟨_, rfl, ?_⟩; obtain ⟨Ao43, co43, eo43⟩ := Kd.R_slice HO_8.out; subst eo43; obtain ⟨Ao44, co44, eo44⟩ := Kd.R_slice HO_10.out; subst eo44) | (go_at_call 31; (with_reducible refine (laws_leVals.calls kj8 _ _ t518 _ _ t524 t533 _ ?side1 ?side2 ?side3 ?side4 A40.out).mono ?_); (case side1 => repeat (first | exact (Kd.R_reads' HO_8.out).2.2 | (with_reducible refine Kd.C_alloc ?_ _) | (with_reducible refine Kd.C_drewN ?_ _) | (with_reducible refine Kd.C_drew ?_))); (case side2 => exact (Kd.R_reads' HO_8.out).2.1); (case side3 => repeat (first | exact (Kd.R_reads' HO_10.out).2.2 | (with_reducible refine Kd.C_alloc ?_ _) | (with_reducible refine Kd.C_drewN ?_ _) | (with_reducible refine Kd.C_drew ?_))); (case side4 => exact (Kd.R_reads' HO_10.out).2.1); rintro e w' ⟨rfl, ⟨nd, rfl⟩⟩))
                go_ret
                exact ⟨by first | rfl | (simp [errW_none, errW_some] <;> rfl) | (simp [*, errW_none, errW_some] <;> rfl), by repeat (first | (with_reducible first | exact HB.out | apply below_alloc | apply pw_below_drewN | apply below_drew1) | exact HB.out)⟩
              · replace c39 := Bool.eq_false_iff.mpr c39
                subst c39
                have H1 : (some false) = some r := by rw [if_neg (show ¬ (false = true) by decide)] at H; exact H
                clear H
                have H := H1
                clear H1
                obtain rfl := Option.some.inj H
                exact absurd hr_ (by decide)
            · replace c37 := Bool.eq_false_iff.mpr c37
              subst c37
              have H1 : (if (t511.length : Int) = 0 then (none) else ((laws_leTurned.f kj8 t511 t512 ((l1.length : Int) % (t511.length : Int))).bind fun bt534 => ((impl_HeapGraph.f kj8 bt534.1 bt534.2).bind fun bt540 => ((laws_leObjs.f kj8 bt540.1 t517).bind fun t546 => (if t546 = true then ((laws_leVals.f kj8 bt540.2 t518).bind fun t547 => (some t547)) else (some false)))))) = some r := by rw [if_neg (show ¬ (false = true) by decide)] at H; exact H
              clear H
              have H := H1
              clear H1
              by_cases c45 : (t511.length : Int) = 0
              · rw [if_pos c45] at H
                exact absurd H (by simp)
              · rw [if_neg c45] at H
                have c45b0 : ((t511.length : Int) == 0) = false := beq_eq_false_iff_ne.mpr c45
                have c45b1 : ((t511.length : Int) != 0) = true := bne_iff_ne.mpr c45
                have c45b2 : ¬ (t511 = []) := fun h_ => c45 (by rw [h_]; rfl)
                replace H := Option.bind_eq_some_iff.mp H
                obtain ⟨⟨t534, t535⟩, A460, H⟩ := H
                replace H : ((impl_HeapGraph.f kj8 t534 t535).bind fun bt540 => ((laws_leObjs.f kj8 bt540.1 t517).bind fun t546 => (if t546 = true then ((laws_leVals.f kj8 bt540.2 t518).bind fun t547 => (some t547)) else (some false)))) = some r := H
                have A46 := Aside0.mk A460
                clear A460
                replace H := Option.bind_eq_some_iff.mp H
                obtain ⟨⟨t540, t541⟩, A470, H⟩ := H
                replace H : ((laws_leObjs.f kj8 t540 t517).bind fun t546 => (if t546 = true then ((laws_leVals.f kj8 t541 t518).bind fun t547 => (some t547)) else (some false))) = some r := H
                have A47 := Aside0.mk A470
                clear A470
                replace H := Option.bind_eq_some_iff.mp H
                obtain ⟨t546, A480, H⟩ := H
                replace H : (if t546 = true then ((laws_leVals.f kj8 t541 t518).bind fun t547 => (some t547)) else (some false)) = some r := H
                have A48 := Aside0.mk A480
                clear A480
                by_cases c49 : t546 = true
                · subst c49
                  have H1 : ((laws_leVals.f kj8 t541 t518).bind fun t547 => (some t547)) = some r := by rw [if_pos rfl] at H; exact H
                  clear H
                  have H := H1
                  clear H1
                  replace H := Option.bind_eq_some_iff.mp H
                  obtain ⟨t547, A500, H⟩ := H
                  replace H : (some t547) = some r := H
                  have A50 := Aside0.mk A500
                  clear A500
                  obtain rfl := Option.some.inj H
                  simp only [Option.some.injEq, Prod.mk.injEq] at H
                  obtain ⟨rfl⟩ := H
                  go_wp2_with (first | ((with_reducible refine gate_callee (f := 32) rfl ?_); refine goesL_ (some 77) rfl rfl Try.func32 (by kernel_rfl) rfl #[.slice Ao11 t511.length co11, .slice Ao12 t512.length co12, .int .i64 ((l1.length : Int) % (t511.length : Int))] rfl (by (try simp only [List.map_toArray, List.map_cons, List.map_nil]); first | done | rfl | (simp only [List.length_drop, List.length_take]; rfl)) ?_; (with_reducible refine (laws_leTurned.calls kj8 _ _ t511 _ _ t512 ((l1.length : Int) % (t511.length : Int)) t534 t535 _ ?side1 ?side2 ?side3 ?side4 A46.out).mono ?_); (case side1 => repeat (first | exact (Kd.S_reads' HO_5.out).2.2 | (with_reducible refine Kd.C_alloc ?_ _) | (with_reducible refine Kd.C_drewN ?_ _) | (with_reducible refine Kd.C_drew ?_))); (case side2 => exact (Kd.S_reads' HO_5.out).2.1); (case side3 => repeat (first | exact (Kd.R_reads' HO_6.out).2.2 | (with_reducible refine Kd.C_alloc ?_ _) | (with_reducible refine Kd.C_drewN ?_ _) | (with_reducible refine Kd.C_drew ?_))); (case side4 => exact (Kd.R_reads' HO_6.out).2.1); rintro e w51 ⟨v536, v538, rfl, ho0, ho1, hb⟩; refine ⟨_, rfl, ?_⟩; have n0_ := Aside0.mk (Kd.S_mono (Kd.S_told (Kd.S_told (Kd.S_old (by (with_reducible repeat (first | apply Kd.S_alloc | apply Kd.S_drewN | apply Kd.S_drew)); exact HO_5.out) hb) (Kd.S_base ho0)) (Kd.R_base ho1)) (fun _ h_ => h_.1)); have n1_ := Aside0.mk (Kd.R_elder' (by (with_reducible repeat (first | apply Kd.R_alloc | apply Kd.R_drewN | apply Kd.R_drew)); exact HO_6.out) (Kd.R_base ho1) hb); have n2_ := Aside0.mk (Kd.S_mono (Kd.S_told (Kd.S_told (Kd.S_old (by (with_reducible repeat (first | apply Kd.S_alloc | apply Kd.S_drewN | apply Kd.S_drew)); exact HO_7.out) hb) (Kd.S_base ho0)) (Kd.R_base ho1)) (fun _ h_ => h_.1)); have n3_ := Aside0.mk (Kd.R_elder' (by (with_reducible repeat (first | apply Kd.R_alloc | apply Kd.R_drewN | apply Kd.R_drew)); exact HO_8.out) (Kd.R_base ho1) hb); have n4_ := Aside0.mk (Kd.S_mono (Kd.S_told (Kd.S_told (Kd.S_old (by (with_reducible repeat (first | apply Kd.S_alloc | apply Kd.S_drewN | apply Kd.S_drew)); exact HO_9.out) hb) (Kd.S_base ho0)) (Kd.R_base ho1)) (fun _ h_ => h_.1)); have n5_ := Aside0.mk (Kd.R_elder' (by (with_reducible repeat (first | apply Kd.R_alloc | apply Kd.R_drewN | apply Kd.R_drew)); exact HO_10.out) (Kd.R_base ho1) hb); have n6_ := Aside0.mk (Kd.S_lower (Kd.S_new' (Kd.S_new' (Kd.S_new' (Kd.S_new' (Kd.S_new' (Kd.S_new' ho0 (Kd.S_lt (by (with_reducible repeat (first | apply Kd.S_alloc | apply Kd.S_drewN | apply Kd.S_drew)); exact HO_5.out))) (Kd.R_lt (by (with_reducible repeat (first | apply Kd.R_alloc | apply Kd.R_drewN | apply Kd.R_drew)); exact HO_6.out))) (Kd.S_lt (by (with_reducible repeat (first | apply Kd.S_alloc | apply Kd.S_drewN | apply Kd.S_drew)); exact HO_7.out))) (Kd.R_lt (by (with_reducible repeat (first | apply Kd.R_alloc | apply Kd.R_drewN | apply Kd.R_drew)); exact HO_8.out))) (Kd.S_lt (by (with_reducible repeat (first | apply Kd.S_alloc | apply Kd.S_drewN | apply Kd.S_drew)); exact HO_9.out))) (Kd.R_lt (by (with_reducible repeat (first | apply Kd.R_alloc | apply Kd.R_drewN | apply Kd.R_drew)); exact HO_10.out))) (below_size (by repeat (first | (with_reducible first | exact HB.out | apply below_alloc | apply pw_below_drewN | apply below_drew1) | exact HB.out)))); have n7_ := Aside0.mk (Kd.R_lower (Kd.R_new' (Kd.R_new' (Kd.R_new' ho1 (Kd.R_lt (by (with_reducible repeat (first | apply Kd.R_alloc | apply Kd.R_drewN | apply Kd.R_drew)); exact HO_6.out))) (Kd.R_lt (by (with_reducible repeat (first | apply Kd.R_alloc | apply Kd.R_drewN | apply Kd.R_drew)); exact HO_8.out))) (Kd.R_lt (by (with_reducible repeat (first | apply Kd.R_alloc | apply Kd.R_drewN | apply Kd.R_drew)); exact HO_10.out))) (below_size (by repeat (first | (with_reducible first | exact HB.out | apply below_alloc | apply pw_below_drewN | apply below_drew1) | exact HB.out)))); have n8_ := Aside0.mk (below_step (by repeat (first | (with_reducible first | exact HB.out | apply below_alloc | apply pw_below_drewN | apply below_drew1) | exact HB.out)) hb); clear HO_5; clear HO_6; clear HO_7; clear HO_8; clear HO_9; clear HO_10; clear HB; have HO_5 := n0_; have HO_6 := n1_; have HO_7 := n2_; have HO_8 := n3_; have HO_9 := n4_; have HO_10 := n5_; have HO537 := n6_; have HO539 := n7_; have HB := n8_; clear n0_ n1_ n2_ n3_ n4_ n5_ n6_ n7_ n8_; (try clear hb); (try clear hb2); (try clear hk); (try clear hi); (try clear ho0); (try clear ho1); obtain ⟨Ao52, co52, eo52⟩ := Kd.S_slice HO537.out; subst eo52; obtain ⟨Ao53, co53, eo53⟩ := Kd.R_slice HO539.out; subst eo53) | ((with_reducible refine gate_callee (f := 24) rfl ?_); refine goesL_ (some 83) rfl rfl Try.func24 (by kernel_rfl) rfl #[.slice Ao52 t534.length co52, .slice Ao53 t535.length co53] rfl (by (try simp only [List.map_toArray, List.map_cons, List.map_nil]); first | done | rfl | (simp only [List.length_drop, List.length_take]; rfl)) ?_; (with_reducible refine (impl_HeapGraph.calls kj8 _ _ t534 _ _ t535 t540 t541 _ ?side1 ?side2 ?side3 ?side4 A47.out).mono ?_); (case side1 => repeat (first | exact (Kd.S_reads' HO537.out).2.2 | (with_reducible refine Kd.C_alloc ?_ _) | (with_reducible refine Kd.C_drewN ?_ _) | (with_reducible refine Kd.C_drew ?_))); (case side2 => exact (Kd.S_reads' HO537.out).2.1); (case side3 => repeat (first | exact (Kd.R_reads' HO539.out).2.2 | (with_reducible refine Kd.C_alloc ?_ _) | (with_reducible refine Kd.C_drewN ?_ _) | (with_reducible refine Kd.C_drew ?_))); (case side4 => exact (Kd.R_reads' HO539.out).2.1); rintro e w54 ⟨v542, v544, rfl, ho0, ho1, hb⟩; refine ⟨_, rfl, ?_⟩; have n0_ := Aside0.mk (Kd.S_mono (Kd.S_told (Kd.S_told (Kd.S_old (by (with_reducible repeat (first | apply Kd.S_alloc | apply Kd.S_drewN | apply Kd.S_drew)); exact HO_5.out) hb) (Kd.S_base ho0)) (Kd.R_base ho1)) (fun _ h_ => h_.1)); have n1_ := Aside0.mk (Kd.R_elder' (by (with_reducible repeat (first | apply Kd.R_alloc | apply Kd.R_drewN | apply Kd.R_drew)); exact HO_6.out) (Kd.R_base ho1) hb); have n2_ := Aside0.mk (Kd.S_mono (Kd.S_told (Kd.S_told (Kd.S_old (by (with_reducible repeat (first | apply Kd.S_alloc | apply Kd.S_drewN | apply Kd.S_drew)); exact HO_7.out) hb) (Kd.S_base ho0)) (Kd.R_base ho1)) (fun _ h_ => h_.1)); have n3_ := Aside0.mk (Kd.R_elder' (by (with_reducible repeat (first | apply Kd.R_alloc | apply Kd.R_drewN | apply Kd.R_drew)); exact HO_8.out) (Kd.R_base ho1) hb); have n4_ := Aside0.mk (Kd.S_mono (Kd.S_told (Kd.S_told (Kd.S_old (by (with_reducible repeat (first | apply Kd.S_alloc | apply Kd.S_drewN | apply Kd.S_drew)); exact HO_9.out) hb) (Kd.S_base ho0)) (Kd.R_base ho1)) (fun _ h_ => h_.1)); have n5_ := Aside0.mk (Kd.R_elder' (by (with_reducible repeat (first | apply Kd.R_alloc | apply Kd.R_drewN | apply Kd.R_drew)); exact HO_10.out) (Kd.R_base ho1) hb); have n6_ := Aside0.mk (Kd.S_mono (Kd.S_told (Kd.S_told (Kd.S_old (by (with_reducible repeat (first | apply Kd.S_alloc | apply Kd.S_drewN | apply Kd.S_drew)); exact HO537.out) hb) (Kd.S_base ho0)) (Kd.R_base ho1)) (fun _ h_ => h_.1)); have n7_ := Aside0.mk (Kd.R_elder' (by (with_reducible repeat (first | apply Kd.R_alloc | apply Kd.R_drewN | apply Kd.R_drew)); exact HO539.out) (Kd.R_base ho1) hb); have n8_ := Aside0.mk (Kd.S_lower (Kd.S_new' (Kd.S_new' (Kd.S_new' (Kd.S_new' (Kd.S_new' (Kd.S_new' (Kd.S_new' (Kd.S_new' ho0 (Kd.S_lt (by (with_reducible repeat (first | apply Kd.S_alloc | apply Kd.S_drewN | apply Kd.S_drew)); exact HO_5.out))) (Kd.R_lt (by (with_reducible repeat (first | apply Kd.R_alloc | apply Kd.R_drewN | apply Kd.R_drew)); exact HO_6.out))) (Kd.S_lt (by (with_reducible repeat (first | apply Kd.S_alloc | apply Kd.S_drewN | apply Kd.S_drew)); exact HO_7.out))) (Kd.R_lt (by (with_reducible repeat (first | apply Kd.R_alloc | apply Kd.R_drewN | apply Kd.R_drew)); exact HO_8.out))) (Kd.S_lt (by (with_reducible repeat (first | apply Kd.S_alloc | apply Kd.S_drewN | apply Kd.S_drew)); exact HO_9.out))) (Kd.R_lt (by (with_reducible repeat (first | apply Kd.R_alloc | apply Kd.R_drewN | apply Kd.R_drew)); exact HO_10.out))) (Kd.S_lt (by (with_reducible repeat (first | apply Kd.S_alloc | apply Kd.S_drewN | apply Kd.S_drew)); exact HO537.out))) (Kd.R_lt (by (with_reducible repeat (first | apply Kd.R_alloc | apply Kd.R_drewN | apply Kd.R_drew)); exact HO539.out))) (below_size (by repeat (first | (with_reducible first | exact HB.out | apply below_alloc | apply pw_below_drewN | apply below_drew1) | exact HB.out)))); have n9_ := Aside0.mk (Kd.R_lower (Kd.R_new' (Kd.R_new' (Kd.R_new' (Kd.R_new' ho1 (Kd.R_lt (by (with_reducible repeat (first | apply Kd.R_alloc | apply Kd.R_drewN | apply Kd.R_drew)); exact HO_6.out))) (Kd.R_lt (by (with_reducible repeat (first | apply Kd.R_alloc | apply Kd.R_drewN | apply Kd.R_drew)); exact HO_8.out))) (Kd.R_lt (by (with_reducible repeat (first | apply Kd.R_alloc | apply Kd.R_drewN | apply Kd.R_drew)); exact HO_10.out))) (Kd.R_lt (by (with_reducible repeat (first | apply Kd.R_alloc | apply Kd.R_drewN | apply Kd.R_drew)); exact HO539.out))) (below_size (by repeat (first | (with_reducible first | exact HB.out | apply below_alloc | apply pw_below_drewN | apply below_drew1) | exact HB.out)))); have n10_ := Aside0.mk (below_step (by repeat (first | (with_reducible first | exact HB.out | apply below_alloc | apply pw_below_drewN | apply below_drew1) | exact HB.out)) hb); clear HO_5; clear HO_6; clear HO_7; clear HO_8; clear HO_9; clear HO_10; clear HO537; clear HO539; clear HB; have HO_5 := n0_; have HO_6 := n1_; have HO_7 := n2_; have HO_8 := n3_; have HO_9 := n4_; have HO_10 := n5_; have HO537 := n6_; have HO539 := n7_; have HO543 := n8_; have HO545 := n9_; have HB := n10_; clear n0_ n1_ n2_ n3_ n4_ n5_ n6_ n7_ n8_ n9_ n10_; (try clear hb); (try clear hb2); (try clear hk); (try clear hi); (try clear ho0); (try clear ho1); obtain ⟨Ao55, co55, eo55⟩ := Kd.S_slice HO543.out; subst eo55; obtain ⟨Ao56, co56, eo56⟩ := Kd.S_slice HO_7.out; subst eo56) | ((with_reducible refine gate_callee (f := 30) rfl ?_); refine goesL_ (some 88) rfl rfl Try.func30 (by kernel_rfl) rfl #[.slice Ao55 t540.length co55, .slice Ao56 t517.length co56] rfl (by (try simp only [List.map_toArray, List.map_cons, List.map_nil]); first | done | rfl | (simp only [List.length_drop, List.length_take]; rfl)) ?_; (with_reducible refine (laws_leObjs.calls kj8 _ _ t540 _ _ t517 true _ ?side1 ?side2 ?side3 ?side4 A48.out).mono ?_); (case side1 => repeat (first | exact (Kd.S_reads' HO543.out).2.2 | (with_reducible refine Kd.C_alloc ?_ _) | (with_reducible refine Kd.C_drewN ?_ _) | (with_reducible refine Kd.C_drew ?_))); (case side2 => exact (Kd.S_reads' HO543.out).2.1); (case side3 => repeat (first | exact (Kd.S_reads' HO_7.out).2.2 | (with_reducible refine Kd.C_alloc ?_ _) | (with_reducible refine Kd.C_drewN ?_ _) | (with_reducible refine Kd.C_drew ?_))); (case side4 => exact (Kd.S_reads' HO_7.out).2.1); rintro e w' ⟨rfl, ⟨nd, rfl⟩⟩; refine ⟨_, rfl, ?_⟩; obtain ⟨Ao57, co57, eo57⟩ := Kd.R_slice HO545.out; subst eo57; obtain ⟨Ao58, co58, eo58⟩ := Kd.R_slice HO_8.out; subst eo58) | (go_at_call 31; (with_reducible refine (laws_leVals.calls kj8 _ _ t541 _ _ t518 t547 _ ?side1 ?side2 ?side3 ?side4 A50.out).mono ?_); (case side1 => repeat (first | exact (Kd.R_reads' HO545.out).2.2 | (with_reducible refine Kd.C_alloc ?_ _) | (with_reducible refine Kd.C_drewN ?_ _) | (with_reducible refine Kd.C_drew ?_))); (case side2 => exact (Kd.R_reads' HO545.out).2.1); (case side3 => repeat (first | exact (Kd.R_reads' HO_8.out).2.2 | (with_reducible refine Kd.C_alloc ?_ _) | (with_reducible refine Kd.C_drewN ?_ _) | (with_reducible refine Kd.C_drew ?_))); (case side4 => exact (Kd.R_reads' HO_8.out).2.1); rintro e w' ⟨rfl, ⟨nd, rfl⟩⟩))
                  go_ret
                  exact ⟨by first | rfl | (simp [errW_none, errW_some] <;> rfl) | (simp [*, errW_none, errW_some] <;> rfl), by repeat (first | (with_reducible first | exact HB.out | apply below_alloc | apply pw_below_drewN | apply below_drew1) | exact HB.out)⟩
                · replace c49 := Bool.eq_false_iff.mpr c49
                  subst c49
                  have H1 : (some false) = some r := by rw [if_neg (show ¬ (false = true) by decide)] at H; exact H
                  clear H
                  have H := H1
                  clear H1
                  obtain rfl := Option.some.inj H
                  exact absurd hr_ (by decide)
theorem laws_FnGraphTurn.walk (P : laws_FnGraphTurn.Pure) (a0 : Option Addr) (len0 cap0 : Nat) (z0 : List Int) (a1 : Option Addr) (len1 cap1 : Nat) (z1 : List Int) (w : World) (w0 : (a0 = none ∧ len0 = 0 ∧ cap0 = 0 ∧ z0 = []) ∨ ∃ x, a0 = some x ∧ len0 ≤ cap0 ∧ cap0 ≤ maxLen ∧ z0.length = cap0 ∧ (∀ i, i < z0.length → w.cell? (x.add i) = some (.int .u8 (z0.getD i 0))) ∧ ∀ n ∈ z0, (Lit.int .u8 n).wf = true) (y0 : len0 * 1 ≤ 140737488351232) (w1 : (a1 = none ∧ len1 = 0 ∧ cap1 = 0 ∧ z1 = []) ∨ ∃ x, a1 = some x ∧ len1 ≤ cap1 ∧ cap1 ≤ maxLen ∧ z1.length = cap1 ∧ (∀ i, i < z1.length → w.cell? (x.add i) = some (.int .u8 (z1.getD i 0))) ∧ ∀ n ∈ z1, (Lit.int .u8 n).wf = true) (y1 : len1 * 1 ≤ 140737488351232) :
    Calls Try.prog 11 #[.slice a0 len0 cap0, .slice a1 len1 cap1] w fun e w' => e = .returned (.bool true) ∧ Below w.heap.size w w' := by
  obtain ⟨l0, rfl, hr0, hm0, hw0, hc0⟩ := ReadsInt.ofRowC w0
  obtain ⟨l1, rfl, hr1, hm1, hw1, hc1⟩ := ReadsInt.ofRowC w1
  obtain ⟨k, h⟩ := P l0 l1 hm0 y0 hw0 hm1 y1 hw1
  refine (laws_FnGraphTurn.calls k _ _ l0 _ _ l1 true w (Kd.C_of_reads (d := (0 : Int)) (h1 := fun _ => rfl) hr0) hc0 (Kd.C_of_reads (d := (0 : Int)) (h1 := fun _ => rfl) hr1) hc1 h rfl).mono ?_
  rintro e w' ⟨rfl, hd⟩
  exact ⟨rfl, hd⟩
end Go.Proofs.Yteeakklnlcjgbaa.P

end
section

namespace Go.Proofs.Yteeakklnlcjgbaa.Kit
open Go Go.RowKit Go.Proofs.YteeakklnlcjgbaaW.PrintWords
set_option linter.unusedVariables false
def Evp {α : Type} (g : Nat → Option α) (P : α → Prop) : Prop := ∃ r, Ev g r ∧ P r
theorem Evp.pure {α : Type} {P : α → Prop} (r : α) (h : P r) : Evp (fun _ => some r) P := ⟨r, Ev.now r, h⟩
theorem Evp.bind {α β : Type} {g : Nat → Option α} {f : Nat → α → Option β} {P : α → Prop} {Q : β → Prop} (h : Evp g P) (k : ∀ a, P a → Evp (fun n => f n a) Q) : Evp (fun n => (g n).bind (f n)) Q := by
  obtain ⟨a, ha, hp⟩ := h
  obtain ⟨r, hr, hq⟩ := k a hp
  exact ⟨r, Ev.bind ha hr, hq⟩
theorem Evp.step {α : Type} {g f : Nat → Option α} {P : α → Prop} (h : ∀ k, g (k + 1) = f k) (k : Evp f P) : Evp g P := by
  obtain ⟨r, hr, hp⟩ := k
  exact ⟨r, Ev.step h hr, hp⟩
theorem Evp.congr {α : Type} {g f : Nat → Option α} {P : α → Prop} (h : ∀ k, g k = f k) (k : Evp f P) : Evp g P := by
  obtain ⟨r, hr, hp⟩ := k
  exact ⟨r, Ev.congr h hr, hp⟩
theorem Evp.mono {α : Type} {g : Nat → Option α} {P Q : α → Prop} (h : Evp g P) (hpq : ∀ r, P r → Q r) : Evp g Q := by
  obtain ⟨r, hr, hp⟩ := h
  exact ⟨r, hr, hpq r hp⟩
theorem Evp.yes {α : Type} {c : Prop} [Decidable c] {f g : Nat → Option α} {P : α → Prop} (hc : c) (h : Evp f P) : Evp (fun n => if c then f n else g n) P := by
  simp only [if_pos hc]; exact h
theorem Evp.no {α : Type} {c : Prop} [Decidable c] {f g : Nat → Option α} {P : α → Prop} (hc : ¬ c) (h : Evp g P) : Evp (fun n => if c then f n else g n) P := by
  simp only [if_neg hc]; exact h
theorem Evp.ite {α : Type} {c : Prop} [Decidable c] {f g : Nat → Option α} {P : α → Prop} (h : c → Evp f P) (k : ¬ c → Evp g P) : Evp (fun n => if c then f n else g n) P := by
  by_cases hc : c
  · exact Evp.yes hc (h hc)
  · exact Evp.no hc (k hc)
theorem Ev.of_evp {α : Type} {g : Nat → Option α} {r : α} (h : Evp g (fun x => x = r)) : Ev g r := by
  obtain ⟨x, hx, rfl⟩ := h
  exact hx
theorem Evp.rounds {α : Type} {g : Nat → Option α} {r : α} (h : Evp g (fun x => x = r)) : ∃ k, g k = some r := (Ev.of_evp h).rounds
theorem Evp.for_ {ρ : Type} {n : Nat} {g : Nat → Nat → Option ρ} {R : Nat → ρ → Prop} (hend : Evp (g n) (R n)) (hstep : ∀ i, i < n → Evp (g (i + 1)) (R (i + 1)) → Evp (g i) (R i)) : ∀ i, i ≤ n → Evp (g i) (R i) := by
  have key : ∀ d i, i + d = n → Evp (g i) (R i) := by
    intro d
    induction d with
    | zero => intro i hi; have : i = n := by omega
              subst this; exact hend
    | succ d ih => intro i hi; exact hstep i (by omega) (ih (i + 1) (by omega))
  intro i hi
  exact key (n - i) i (by omega)
theorem Evp.fors {σ ρ : Type} {n : Nat} {g : Nat → σ → Nat → Option ρ} {I : Nat → σ → Prop} {R : Nat → σ → ρ → Prop} (hend : ∀ s, I n s → Evp (g n s) (R n s))
    (hstep : ∀ i, i < n → (∀ s, I (i + 1) s → Evp (g (i + 1) s) (R (i + 1) s)) → ∀ s, I i s → Evp (g i s) (R i s)) : ∀ i, i ≤ n → ∀ s, I i s → Evp (g i s) (R i s) := by
  have key : ∀ d i, i + d = n → ∀ s, I i s → Evp (g i s) (R i s) := by
    intro d
    induction d with
    | zero => intro i hi; have : i = n := by omega
              subst this; exact hend
    | succ d ih => intro i hi; exact hstep i (by omega) (ih (i + 1) (by omega))
  intro i hi
  exact key (n - i) i (by omega)
theorem drop_at {α : Type} {xs : List α} {i : Nat} (h : i < xs.length) : xs.drop i = xs[i] :: xs.drop (i + 1) := List.drop_eq_getElem_cons h
theorem getD_at {α : Type} {xs : List α} {i : Nat} (h : i < xs.length) (d : α) : xs.getD i d = xs[i] := by
  rw [List.getD_eq_getElem?_getD, List.getElem?_eq_getElem h]; rfl
theorem w64' {i n : Nat} (h : i < n) (hn : n ≤ 9223372036854775807) : wrap64 ((i : Int) + 1) = ((i + 1 : Nat) : Int) := by unfold wrap64; omega
theorem w64 {n : Int} (h0 : -9223372036854775808 ≤ n) (h1 : n ≤ 9223372036854775807) : wrap64 n = n := by unfold wrap64; omega
theorem tmod_pos {a b : Int} (h0 : 0 ≤ a) : Int.tmod a b = a % b := Int.tmod_eq_emod_of_nonneg h0
theorem tdiv_pos {a b : Int} (h0 : 0 ≤ a) : Int.tdiv a b = a / b := Int.tdiv_eq_ediv_of_nonneg h0
theorem tmod_lo {a b : Int} (h0 : 0 ≤ a) (hb : 0 < b) : 0 ≤ Int.tmod a b ∧ Int.tmod a b < b := by
  rw [tmod_pos h0]; exact ⟨Int.emod_nonneg _ (by omega), Int.emod_lt_of_pos _ hb⟩
theorem xor_nonneg {a b : Int} (ha : 0 ≤ a) (ha' : a < 4611686018427387904) (hb : 0 ≤ b) (hb' : b < 4611686018427387904) :
    0 ≤ Go.bits .xor .i64 a b ∧ Go.bits .xor .i64 a b < 4611686018427387904 := by
  obtain ⟨x, rfl⟩ := Int.eq_ofNat_of_zero_le ha
  obtain ⟨y, rfl⟩ := Int.eq_ofNat_of_zero_le hb
  have hx : x < 2 ^ 62 := by omega
  have hy : y < 2 ^ 62 := by omega
  have hxy := Nat.xor_lt_two_pow hx hy
  have e : Go.bits .xor .i64 (x : Int) (y : Int) = ((x ^^^ y : Nat) : Int) := by
    show IntKind.i64.wrap (((BitVec.ofInt 64 (x : Int)) ^^^ (BitVec.ofInt 64 (y : Int))).toNat : Int) = _
    rw [BitVec.toNat_xor]
    have e1 : (BitVec.ofInt 64 (x : Int)).toNat = x := by simp; omega
    have e2 : (BitVec.ofInt 64 (y : Int)).toNat = y := by simp; omega
    rw [e1, e2, IntKind.wrap_i64]
    omega
  rw [e]
  omega
end Go.Proofs.Yteeakklnlcjgbaa.Kit

end
section

namespace Go.Proofs.Yteeakklnlcjgbaa.P
open Go.RowKit Go.Proofs.YteeakklnlcjgbaaW.PrintWords Go.Proofs.YteeakklnlcjgbaaW.PrintLast Go.Proofs.YteeakklnlcjgbaaW.PrintMore
attribute [local go_sem] max2_int min2_int max_two min_two max_three min_three max_four min_four
set_option linter.unusedVariables false
set_option linter.unusedSimpArgs false
end Go.Proofs.Yteeakklnlcjgbaa.P

end
section

namespace Go.Proofs.Yteeakklnlcjgbaa.P
open Go.RowKit Go.Proofs.YteeakklnlcjgbaaW.PrintWords Go.Proofs.YteeakklnlcjgbaaW.PrintLast Go.Proofs.YteeakklnlcjgbaaW.PrintMore
attribute [local go_sem] max2_int min2_int max_two min_two max_three min_three max_four min_four
set_option linter.unusedVariables false
set_option linter.unusedSimpArgs false
end Go.Proofs.Yteeakklnlcjgbaa.P

end
section

namespace Go.Proofs.Yteeakklnlcjgbaa.P
open Go.RowKit Go.Proofs.YteeakklnlcjgbaaW.PrintWords Go.Proofs.YteeakklnlcjgbaaW.PrintLast Go.Proofs.YteeakklnlcjgbaaW.PrintMore
attribute [local go_sem] max2_int min2_int max_two min_two max_three min_three max_four min_four
set_option linter.unusedVariables false
set_option linter.unusedSimpArgs false
end Go.Proofs.Yteeakklnlcjgbaa.P

end
section

namespace Go.Proofs.Yteeakklnlcjgbaa.P
open Go.RowKit Go.Proofs.YteeakklnlcjgbaaW.PrintWords Go.Proofs.YteeakklnlcjgbaaW.PrintLast Go.Proofs.YteeakklnlcjgbaaW.PrintMore
attribute [local go_sem] max2_int min2_int max_two min_two max_three min_three max_four min_four
set_option linter.unusedVariables false
set_option linter.unusedSimpArgs false
end Go.Proofs.Yteeakklnlcjgbaa.P

end
section

namespace Go.Proofs.Yteeakklnlcjgbaa.P
open Go.RowKit Go.Proofs.YteeakklnlcjgbaaW.PrintWords Go.Proofs.YteeakklnlcjgbaaW.PrintLast Go.Proofs.YteeakklnlcjgbaaW.PrintMore
attribute [local go_sem] max2_int min2_int max_two min_two max_three min_three max_four min_four
set_option linter.unusedVariables false
set_option linter.unusedSimpArgs false
end Go.Proofs.Yteeakklnlcjgbaa.P

end
section

namespace Go.Proofs.Yteeakklnlcjgbaa.P
open Go.RowKit Go.Proofs.YteeakklnlcjgbaaW.PrintWords Go.Proofs.YteeakklnlcjgbaaW.PrintLast Go.Proofs.YteeakklnlcjgbaaW.PrintMore
attribute [local go_sem] max2_int min2_int max_two min_two max_three min_three max_four min_four
set_option linter.unusedVariables false
set_option linter.unusedSimpArgs false
end Go.Proofs.Yteeakklnlcjgbaa.P

end
section

namespace Go.Proofs.Yteeakklnlcjgbaa.P
open Go.RowKit Go.Proofs.YteeakklnlcjgbaaW.PrintWords Go.Proofs.YteeakklnlcjgbaaW.PrintLast Go.Proofs.YteeakklnlcjgbaaW.PrintMore
attribute [local go_sem] max2_int min2_int max_two min_two max_three min_three max_four min_four
set_option linter.unusedVariables false
set_option linter.unusedSimpArgs false
end Go.Proofs.Yteeakklnlcjgbaa.P

end
section

namespace Go.Proofs.Yteeakklnlcjgbaa.P
open Go.RowKit Go.Proofs.YteeakklnlcjgbaaW.PrintWords Go.Proofs.YteeakklnlcjgbaaW.PrintLast Go.Proofs.YteeakklnlcjgbaaW.PrintMore
attribute [local go_sem] max2_int min2_int max_two min_two max_three min_three max_four min_four
set_option linter.unusedVariables false
set_option linter.unusedSimpArgs false
end Go.Proofs.Yteeakklnlcjgbaa.P

end
section

namespace Go.Proofs.Yteeakklnlcjgbaa.P
open Go.RowKit Go.Proofs.YteeakklnlcjgbaaW.PrintWords Go.Proofs.YteeakklnlcjgbaaW.PrintLast Go.Proofs.YteeakklnlcjgbaaW.PrintMore
attribute [local go_sem] max2_int min2_int max_two min_two max_three min_three max_four min_four
set_option linter.unusedVariables false
set_option linter.unusedSimpArgs false
end Go.Proofs.Yteeakklnlcjgbaa.P

end
section

namespace Go.Proofs.Yteeakklnlcjgbaa.P
open Go.RowKit Go.Proofs.YteeakklnlcjgbaaW.PrintWords Go.Proofs.YteeakklnlcjgbaaW.PrintLast Go.Proofs.YteeakklnlcjgbaaW.PrintMore
attribute [local go_sem] max2_int min2_int max_two min_two max_three min_three max_four min_four
set_option linter.unusedVariables false
set_option linter.unusedSimpArgs false
end Go.Proofs.Yteeakklnlcjgbaa.P

end
section

namespace Go.Proofs.Yteeakklnlcjgbaa.P
open Go.RowKit Go.Proofs.YteeakklnlcjgbaaW.PrintWords Go.Proofs.YteeakklnlcjgbaaW.PrintLast Go.Proofs.YteeakklnlcjgbaaW.PrintMore
attribute [local go_sem] max2_int min2_int max_two min_two max_three min_three max_four min_four
set_option linter.unusedVariables false
set_option linter.unusedSimpArgs false
end Go.Proofs.Yteeakklnlcjgbaa.P

end
section

namespace Go.Proofs.Yteeakklnlcjgbaa.P
open Go.RowKit Go.Proofs.YteeakklnlcjgbaaW.PrintWords Go.Proofs.YteeakklnlcjgbaaW.PrintLast Go.Proofs.YteeakklnlcjgbaaW.PrintMore
attribute [local go_sem] max2_int min2_int max_two min_two max_three min_three max_four min_four
set_option linter.unusedVariables false
set_option linter.unusedSimpArgs false
end Go.Proofs.Yteeakklnlcjgbaa.P

end
section

namespace Go.Proofs.Yteeakklnlcjgbaa.Kit
open Go Go.RowKit Go.Proofs.YteeakklnlcjgbaaW.PrintWords Go.Proofs.Yteeakklnlcjgbaa.P
set_option linter.unusedVariables false
def valOk (n : Nat) (v : S46) : Bool := !v.f0 || (decide (0 ≤ v.f1) && decide (v.f1 ≤ (n : Int)))
def heapOk (objs : List S48) (roots : List S46) : Bool := roots.all (valOk objs.length) && objs.all fun o => o.f1.all (valOk objs.length)
theorem spec_val (v : S46) (n : Nat) : spec_l12Val.f v.f0 v.f1 (n : Int) = some (valOk n v) := by
  obtain ⟨b, x⟩ := v
  unfold spec_l12Val.f valOk spec_l6In.f
  cases b <;> by_cases h1 : 0 ≤ x <;> simp [h1]
theorem impl_val (v : S46) (n : Nat) : impl_leadsOk.f v.f0 v.f1 (n : Int) = some (valOk n v) := by
  obtain ⟨b, x⟩ := v
  unfold impl_leadsOk.f valOk
  cases b <;> by_cases h1 : 0 ≤ x <;> simp [h1]
theorem rd46 {xs : List S46} {i : Nat} (h : i < xs.length) : rd_T46 xs (i : Int) = xs[i] := getD_at h _
theorem rd48 {xs : List S48} {i : Nat} (h : i < xs.length) : rd_T48 xs (i : Int) = xs[i] := getD_at h _
def Small (objs : List S48) : Prop := objs.length ≤ 1073741824 ∧ ∀ o ∈ objs, o.f1.length ≤ 1073741824
theorem spec_heap {objs : List S48} {roots : List S46} (ho : Small objs) (hr : roots.length ≤ 1073741824) : Evp (fun k => spec_HeapOk.f k objs roots) (fun r => r = heapOk objs roots) := by
  have h1 : ∀ i, i ≤ objs.length → Evp (fun k => spec_HeapOk.l1 k objs (i : Int)) (fun r => r = (objs.drop i).all fun o => o.f1.all (valOk objs.length)) := by
    refine Evp.for_ ?_ (fun i hi ih => ?_)
    · refine Evp.step (f := fun k => _) (fun k => by rw [spec_HeapOk.l1]) (Evp.no (by omega) (Evp.pure _ (by simp)))
    · refine Evp.step (f := fun k => _) (fun k => by rw [spec_HeapOk.l1]) (Evp.yes (by omega) ?_)
      have hv : objs[i].f1.length ≤ 1073741824 := ho.2 _ (List.getElem_mem hi)
      have ho1 := ho.1
      have h2 : ∀ j, j ≤ objs[i].f1.length → Evp (fun k => spec_HeapOk.l2 k objs (i : Int) (j : Int)) (fun r => r = ((objs[i].f1.drop j).all (valOk objs.length) && (objs.drop (i + 1)).all fun o => o.f1.all (valOk objs.length))) := by
        refine Evp.for_ ?_ (fun j hj ihj => ?_)
        · refine Evp.step (f := fun k => _) (fun k => by rw [spec_HeapOk.l2, rd48 hi]) (Evp.yes (by omega) (Evp.yes (by omega) (Evp.no (by omega) ?_)))
          rw [w64' hi (by omega)]
          simpa using ih
        · refine Evp.step (f := fun k => _) (fun k => by rw [spec_HeapOk.l2, rd48 hi, rd46 hj, spec_val, Option.bind_some]) (Evp.yes (by omega) (Evp.yes (by omega) (Evp.yes (by omega) (Evp.yes (by omega) ?_))))
          rw [w64' hj (by omega), drop_at hj, List.all_cons]
          refine Evp.ite (fun h => ?_) (fun h => Evp.pure _ (by simp [h]))
          simpa [h] using ihj
      rw [drop_at hi, List.all_cons]
      simpa using h2 0 (Nat.zero_le _)
  have h0 : ∀ i, i ≤ roots.length → Evp (fun k => spec_HeapOk.l0 k objs roots (i : Int)) (fun r => r = ((roots.drop i).all (valOk objs.length) && objs.all fun o => o.f1.all (valOk objs.length))) := by
    refine Evp.for_ ?_ (fun i hi ih => ?_)
    · refine Evp.step (f := fun k => _) (fun k => by rw [spec_HeapOk.l0]) (Evp.no (by omega) ?_)
      simpa using h1 0 (Nat.zero_le _)
    · refine Evp.step (f := fun k => _) (fun k => by rw [spec_HeapOk.l0, rd46 hi, spec_val, Option.bind_some]) (Evp.yes (by omega) (Evp.yes (by omega) ?_))
      rw [w64' hi (by omega), drop_at hi, List.all_cons]
      refine Evp.ite (fun h => ?_) (fun h => Evp.pure _ (by simp [h]))
      simpa [h] using ih
  exact h0 0 (Nat.zero_le _)
theorem impl_heap {objs : List S48} {roots : List S46} (ho : Small objs) (hr : roots.length ≤ 1073741824) : Evp (fun k => impl_HeapOk.f k objs roots) (fun r => r = heapOk objs roots) := by
  have h1 : ∀ i, i ≤ objs.length → Evp (fun k => impl_HeapOk.l1 k objs objs (objs.length : Int) (i : Int)) (fun r => r = (objs.drop i).all fun o => o.f1.all (valOk objs.length)) := by
    refine Evp.for_ ?_ (fun i hi ih => ?_)
    · refine Evp.step (f := fun k => _) (fun k => by rw [impl_HeapOk.l1]) (Evp.no (by omega) (Evp.pure _ (by simp)))
    · refine Evp.step (f := fun k => _) (fun k => by rw [impl_HeapOk.l1, rd48 hi]) (Evp.yes (by omega) (Evp.yes (by omega) (Evp.yes (by omega) ?_)))
      have hv : objs[i].f1.length ≤ 1073741824 := ho.2 _ (List.getElem_mem hi)
      have ho1 := ho.1
      have h2 : ∀ j, j ≤ objs[i].f1.length → Evp (fun k => impl_HeapOk.l2 k objs objs (objs.length : Int) (i : Int) objs[i].f1 (objs[i].f1.length : Int) (j : Int)) (fun r => r = ((objs[i].f1.drop j).all (valOk objs.length) && (objs.drop (i + 1)).all fun o => o.f1.all (valOk objs.length))) := by
        refine Evp.for_ ?_ (fun j hj ihj => ?_)
        · refine Evp.step (f := fun k => _) (fun k => by rw [impl_HeapOk.l2]) (Evp.no (by omega) ?_)
          rw [w64' hi (by omega)]
          simpa using ih
        · refine Evp.step (f := fun k => _) (fun k => by rw [impl_HeapOk.l2, rd46 hj, impl_val, Option.bind_some]) (Evp.yes (by omega) (Evp.yes (by omega) (Evp.yes (by omega) ?_)))
          rw [w64' hj (by omega), drop_at hj, List.all_cons]
          refine Evp.ite (fun h => ?_) (fun h => Evp.pure _ (by simp [h]))
          simpa [h] using ihj
      rw [drop_at hi, List.all_cons]
      simpa using h2 0 (Nat.zero_le _)
  have h0 : ∀ i, i ≤ roots.length → Evp (fun k => impl_HeapOk.l0 k objs roots (roots.length : Int) (i : Int)) (fun r => r = ((roots.drop i).all (valOk objs.length) && objs.all fun o => o.f1.all (valOk objs.length))) := by
    refine Evp.for_ ?_ (fun i hi ih => ?_)
    · refine Evp.step (f := fun k => _) (fun k => by rw [impl_HeapOk.l0]) (Evp.no (by omega) ?_)
      simpa using h1 0 (Nat.zero_le _)
    · refine Evp.step (f := fun k => _) (fun k => by rw [impl_HeapOk.l0, rd46 hi, impl_val, Option.bind_some]) (Evp.yes (by omega) (Evp.yes (by omega) (Evp.yes (by omega) ?_)))
      rw [w64' hi (by omega), drop_at hi, List.all_cons]
      refine Evp.ite (fun h => ?_) (fun h => Evp.pure _ (by simp [h]))
      simpa [h] using ih
  exact h0 0 (Nat.zero_le _)
end Go.Proofs.Yteeakklnlcjgbaa.Kit

end
section

namespace Go.Proofs.Yteeakklnlcjgbaa.Kit
open Go Go.RowKit Go.Proofs.YteeakklnlcjgbaaW.PrintWords Go.Proofs.Yteeakklnlcjgbaa.P
set_option linter.unusedVariables false
def comeV (o : List Int) (v : S46) : List Int := if v.f0 = true ∧ v.f1 ≠ 0 ∧ v.f1 ∉ o then o ++ [v.f1] else o
def Inv (n : Nat) (o : List Int) : Prop := o.Nodup ∧ ∀ x ∈ o, 1 ≤ x ∧ x ≤ (n : Int)
theorem nodup_le : ∀ (n : Nat) (o : List Int), o.Nodup → (∀ x ∈ o, 1 ≤ x ∧ x ≤ (n : Int)) → o.length ≤ n
  | 0, [], _, _ => Nat.le_refl _
  | 0, a :: o, _, h => by have := h a (by simp); omega
  | n + 1, o, hd, h => by
    by_cases hm : ((n + 1 : Nat) : Int) ∈ o
    · have h1 := nodup_le n (o.erase ((n + 1 : Nat) : Int)) (hd.erase _) (fun x hx => by
        obtain ⟨h2, h3⟩ := hd.mem_erase_iff.1 hx
        have := h x h3
        omega)
      rw [List.length_erase_of_mem hm] at h1
      omega
    · have := nodup_le n o hd (fun x hx => by
        have h2 := h x hx
        have : x ≠ ((n + 1 : Nat) : Int) := fun e => hm (e ▸ hx)
        omega)
      omega
theorem Inv.len {n : Nat} {o : List Int} (h : Inv n o) : o.length ≤ n := nodup_le n o h.1 h.2
theorem Inv.nil (n : Nat) : Inv n [] := ⟨List.nodup_nil, by simp⟩
theorem valOk_iff {n : Nat} {v : S46} : valOk n v = true ↔ (v.f0 = true → 0 ≤ v.f1 ∧ v.f1 ≤ (n : Int)) := by
  unfold valOk
  cases v.f0 <;> simp
theorem Inv.come {n : Nat} {o : List Int} {v : S46} (h : Inv n o) (hv : valOk n v = true) : Inv n (comeV o v) := by
  unfold comeV
  split
  · rename_i hc
    obtain ⟨h1, h2, h3⟩ := hc
    have h4 := valOk_iff.1 hv h1
    refine ⟨?_, ?_⟩
    · rw [List.nodup_append]
      refine ⟨h.1, by simp, ?_⟩
      intro a ha b hb e
      simp at hb
      subst hb
      subst e
      exact h3 ha
    · intro x hx
      rcases List.mem_append.1 hx with hx | hx
      · exact h.2 x hx
      · simp at hx
        subst hx
        omega
  · exact h
theorem Inv.fold {n : Nat} : ∀ {vs : List S46} {o : List Int}, Inv n o → (∀ v ∈ vs, valOk n v = true) → Inv n (vs.foldl comeV o)
  | [], _, h, _ => h
  | v :: vs, o, h, hv => by
    show Inv n (vs.foldl comeV (comeV o v))
    exact Inv.fold (h.come (hv v (by simp))) (fun u hu => hv u (by simp [hu]))
theorem step_ok {n : Nat} {o : List Int} {v : S46} (h : Inv n o) (hv : valOk n v = true) (hn : n ≤ 1073741824) : g_step (n + 1) o v = some (comeV o v) := by
  have hl := h.len
  unfold g_step comeV
  by_cases h1 : v.f0 = true
  · have h2 := valOk_iff.1 hv h1
    rw [if_pos h1]
    by_cases h3 : v.f1 = 0
    · simp [h3]
    · rw [if_neg h3, if_pos (by omega)]
      by_cases h4 : v.f1 ∈ o
      · simp [h4]
      · rw [if_neg h4, if_pos (by omega), if_pos ⟨h1, h3, h4⟩]
  · rw [if_neg h1, if_neg (fun h => h1 h.1)]
theorem comes_ok {n : Nat} {vs : List S46} (hn : n ≤ 1073741824) (hl : vs.length ≤ 1073741824) (hv : ∀ v ∈ vs, valOk n v = true) : ∀ i, i ≤ vs.length → ∀ o : List Int, Inv n o → Evp (fun k => g_comes k (n + 1) vs (i : Int) o) (fun r => r = (vs.drop i).foldl comeV o) := by
  refine Evp.fors (g := fun i o k => g_comes k (n + 1) vs (i : Int) o) (I := fun _ o => Inv n o) (R := fun i o r => r = (vs.drop i).foldl comeV o) (fun o ho => ?_) (fun i hi ih o ho => ?_)
  · exact Evp.step (f := fun k => _) (fun k => by rw [g_comes]) (Evp.no (by omega) (Evp.pure _ (by simp)))
  · have hvi := hv _ (List.getElem_mem hi)
    refine Evp.step (f := fun k => _) (fun k => by rw [g_comes, rd46 hi, step_ok ho hvi hn, Option.bind_some]) (Evp.yes (by omega) (Evp.yes (by omega) ?_))
    rw [w64' hi (by omega), drop_at hi, List.foldl_cons]
    exact ih _ (ho.come hvi)
def valsAt (objs : List S48) (x : Int) : List S46 := (objs.getD (x - 1).toNat z48).f1
def walkP (objs : List S48) : Nat → Nat → List Int → List Int
  | 0, _, o => o
  | d + 1, i, o => if h : i < o.length then walkP objs d (i + 1) ((valsAt objs o[i]).foldl comeV o) else o
structure Fine (objs : List S48) : Prop where
  n : objs.length ≤ 1073741824
  l : ∀ o ∈ objs, o.f1.length ≤ 1073741824
  v : ∀ o ∈ objs, ∀ v ∈ o.f1, valOk objs.length v = true
theorem valsAt_mem {objs : List S48} {x : Int} (h0 : 1 ≤ x) (h1 : x ≤ (objs.length : Int)) : ∃ h : (x - 1).toNat < objs.length, valsAt objs x = objs[(x - 1).toNat].f1 := by
  have h : (x - 1).toNat < objs.length := by omega
  exact ⟨h, by rw [valsAt, getD_at h]⟩
theorem Fine.vals {objs : List S48} (h : Fine objs) {x : Int} (h0 : 1 ≤ x) (h1 : x ≤ (objs.length : Int)) : (valsAt objs x).length ≤ 1073741824 ∧ ∀ v ∈ valsAt objs x, valOk objs.length v = true := by
  obtain ⟨hlt, e⟩ := valsAt_mem h0 h1
  rw [e]
  exact ⟨h.l _ (List.getElem_mem hlt), h.v _ (List.getElem_mem hlt)⟩
theorem rd_int {o : List Int} {i : Nat} (h : i < o.length) : rd o (i : Int) = o[i] := by simp [rd, h]
theorem rd_obj {objs : List S48} {x : Int} (h0 : 1 ≤ x) (h1 : x ≤ (objs.length : Int)) : (rd_T48 objs (x - 1)).f1 = valsAt objs x := rfl
theorem walk_ok {objs : List S48} (hf : Fine objs) : ∀ d i (o : List Int), Inv objs.length o → objs.length + 1 ≤ i + d → Evp (fun k => g_walk k objs (i : Int) o) (fun r => r = walkP objs d i o)
  | 0, i, o, ho, hd => by
    have := ho.len
    refine Evp.step (f := fun k => _) (fun k => by rw [g_walk]) (Evp.no (by omega) (Evp.pure o rfl))
  | d + 1, i, o, ho, hd => by
    have hn := hf.n
    by_cases hi : i < o.length
    · have hx := ho.2 _ (List.getElem_mem hi)
      have hw : wrap64 (o[i] - 1) = o[i] - 1 := w64 (by omega) (by omega)
      have hlen := ho.len
      have hv := hf.vals hx.1 hx.2
      refine Evp.step (f := fun k => _) (fun k => by rw [g_walk, rd_int hi, hw, rd_obj hx.1 hx.2]) (Evp.yes (by omega) (Evp.yes (by omega) ?_))
      refine Evp.bind (f := fun k o' => g_walk k objs (wrap64 ((i : Int) + 1)) o') (comes_ok hn hv.1 hv.2 0 (Nat.zero_le _) o ho) (fun o' e => ?_)
      subst e
      rw [w64' hi (by omega), walkP, dif_pos hi]
      exact walk_ok hf d (i + 1) _ (ho.fold (by simpa using hv.2)) (by omega)
    · refine Evp.step (f := fun k => _) (fun k => by rw [g_walk]) (Evp.no (by omega) (Evp.pure _ ?_))
      rw [walkP, dif_neg hi]
def Cov (o : List Int) (v : S46) : Prop := v.f0 = true → v.f1 = 0 ∨ v.f1 ∈ o
theorem come_pre (o : List Int) (v : S46) : o <+: comeV o v := by
  unfold comeV
  split
  · exact List.prefix_append _ _
  · exact List.prefix_refl _
theorem come_cov (o : List Int) (v : S46) : Cov (comeV o v) v := by
  intro h
  unfold comeV
  by_cases h0 : v.f1 = 0
  · exact .inl h0
  · right
    by_cases hm : v.f1 ∈ o
    · simp [hm]
    · rw [if_pos ⟨h, h0, hm⟩]
      simp
theorem Cov.pre {o o' : List Int} {v : S46} (h : Cov o v) (hp : o <+: o') : Cov o' v := fun hf => (h hf).imp id (fun hm => hp.subset hm)
theorem fold_pre : ∀ (vs : List S46) (o : List Int), o <+: vs.foldl comeV o
  | [], o => List.prefix_refl _
  | v :: vs, o => (come_pre o v).trans (fold_pre vs _)
theorem fold_cov : ∀ (vs : List S46) (o : List Int), ∀ v ∈ vs, Cov (vs.foldl comeV o) v
  | [], _, _, h => by simp at h
  | u :: vs, o, v, h => by
    rcases List.mem_cons.1 h with rfl | h
    · exact (come_cov o _).pre (fold_pre vs _)
    · exact fold_cov vs _ v h
theorem walk_pre (objs : List S48) : ∀ d i o, o <+: walkP objs d i o
  | 0, _, o => List.prefix_refl _
  | d + 1, i, o => by
    rw [walkP]
    split
    · exact (fold_pre _ _).trans (walk_pre objs d (i + 1) _)
    · exact List.prefix_refl _
theorem walk_inv {objs : List S48} (hf : Fine objs) : ∀ d i (o : List Int), Inv objs.length o → Inv objs.length (walkP objs d i o)
  | 0, _, _, h => h
  | d + 1, i, o, h => by
    rw [walkP]
    split
    · rename_i hi
      have hx := h.2 _ (List.getElem_mem hi)
      exact walk_inv hf d (i + 1) _ (h.fold (hf.vals hx.1 hx.2).2)
    · exact h
theorem walk_cov {objs : List S48} (hf : Fine objs) : ∀ d i (o : List Int), Inv objs.length o → objs.length + 1 ≤ i + d → (∀ j (h : j < o.length), j < i → ∀ v ∈ valsAt objs o[j], Cov o v) → ∀ x ∈ walkP objs d i o, ∀ v ∈ valsAt objs x, Cov (walkP objs d i o) v
  | 0, i, o, ho, hd, hc => by
    intro x hx v hv
    obtain ⟨j, hj, rfl⟩ := List.getElem_of_mem hx
    exact hc j hj (by have := ho.len; simp only [walkP] at hj; omega) v hv
  | d + 1, i, o, ho, hd, hc => by
    rw [walkP]
    split
    · rename_i hi
      have hx := ho.2 _ (List.getElem_mem hi)
      refine walk_cov hf d (i + 1) _ (ho.fold (hf.vals hx.1 hx.2).2) (by omega) (fun j hj hji v hv => ?_)
      have hjo : j < o.length := by omega
      have e : ((valsAt objs o[i]).foldl comeV o)[j] = o[j] := (fold_pre _ _).getElem hjo |>.symm
      rw [e] at hv
      by_cases hj2 : j = i
      · subst hj2
        exact fold_cov _ _ v hv
      · exact (hc j hjo (by omega) v hv).pre (fold_pre _ _)
    · rename_i hi
      intro x hx v hv
      obtain ⟨j, hj, rfl⟩ := List.getElem_of_mem hx
      exact hc j hj (by omega) v hv
end Go.Proofs.Yteeakklnlcjgbaa.Kit

end
section

namespace Go.Proofs.Yteeakklnlcjgbaa.Kit
open Go Go.RowKit Go.Proofs.YteeakklnlcjgbaaW.PrintWords Go.Proofs.Yteeakklnlcjgbaa.P
set_option linter.unusedVariables false
def ordP (objs : List S48) (roots : List S46) : List Int := walkP objs (objs.length + 1) 0 (roots.foldl comeV [])
def mv (o : List Int) (v : S46) : S46 := if v.f0 = true then ⟨true, g_num o v.f1⟩ else v
def objP (objs : List S48) (o : List Int) (x : Int) : S48 := ⟨(objs.getD (x - 1).toNat z48).f0, (valsAt objs x).map (mv o)⟩
def graphP (objs : List S48) (roots : List S46) : List S48 × List S46 := ((ordP objs roots).map (objP objs (ordP objs roots)), roots.map (mv (ordP objs roots)))
def HG (objs : List S48) (roots : List S46) : List S48 × List S46 := if heapOk objs roots = true then graphP objs roots else ([], [])
theorem heapOk_iff {objs : List S48} {roots : List S46} : heapOk objs roots = true ↔ (∀ v ∈ roots, valOk objs.length v = true) ∧ ∀ o ∈ objs, ∀ v ∈ o.f1, valOk objs.length v = true := by
  unfold heapOk
  simp [List.all_eq_true]
theorem Fine.of {objs : List S48} {roots : List S46} (hs : Small objs) (h : heapOk objs roots = true) : Fine objs := ⟨hs.1, hs.2, (heapOk_iff.1 h).2⟩
theorem toL_at {n : Nat} {o : List Int} {m : Int} (h0 : 0 ≤ m) (h1 : m ≤ (n : Int)) : rd (g_toL (n + 1) o) m = g_num o m := by
  have h2 : ((m.toNat : Nat) : Int) = m := Int.toNat_of_nonneg h0
  have h3 : m.toNat < n + 1 := by omega
  simp [rd, g_toL, h3, h2]
theorem numL_at {n : Nat} {o : List Int} {m : Int} (h0 : 1 ≤ m) (h1 : m ≤ (n : Int)) : rd (g_numL n o) (m - 1) = g_num o m := by
  obtain ⟨j, rfl⟩ : ∃ j : Nat, m = (j : Int) + 1 := ⟨(m - 1).toNat, by omega⟩
  rw [show (j : Int) + 1 - 1 = (j : Int) by omega]
  have h3 : j < n := by omega
  simp [rd, g_numL, h3]
theorem take_snoc {α β : Type} (f : α → β) (l : List α) {i : Nat} (h : i < l.length) : (l.take i).map f ++ [f l[i]] = (l.take (i + 1)).map f := by
  rw [List.take_succ_eq_append_getElem h, List.map_append]; rfl
theorem move_ok {n : Nat} {o : List Int} {vs : List S46} (hn : n ≤ 1073741824) (hl : vs.length ≤ 1073741824) (hv : ∀ v ∈ vs, valOk n v = true) : Evp (fun k => impl_moveVals.f k vs (g_toL (n + 1) o)) (fun r => r = vs.map (mv o)) := by
  unfold impl_moveVals.f
  have key : ∀ i, i ≤ vs.length → ∀ s : List S46, s = (vs.take i).map (mv o) → Evp (fun k => impl_moveVals.l0 k (g_toL (n + 1) o) s vs (vs.length : Int) (i : Int)) (fun r => r = vs.map (mv o)) := by
    refine Evp.fors (g := fun i s k => impl_moveVals.l0 k (g_toL (n + 1) o) s vs (vs.length : Int) (i : Int)) (I := fun i s => s = (vs.take i).map (mv o)) (R := fun _ _ r => r = vs.map (mv o)) (fun s hs => ?_) (fun i hi ih s hs => ?_)
    · refine Evp.step (f := fun k => _) (fun k => by rw [impl_moveVals.l0]) (Evp.no (by omega) (Evp.pure s ?_))
      rw [hs, List.take_length]
    · have hvi := valOk_iff.1 (hv _ (List.getElem_mem hi))
      have hsl : s.length ≤ vs.length := by rw [hs]; simp; omega
      refine Evp.step (f := fun k => _) (fun k => by rw [impl_moveVals.l0, rd46 hi, length_toL, w64' hi (by omega)]) (Evp.yes (by omega) (Evp.yes (by omega) (Evp.yes (by omega) (Evp.ite (fun hb => ?_) (fun hb => ?_)))))
      · have h2 := hvi hb
        refine Evp.yes (by omega) (Evp.yes (by omega) (Evp.yes (by omega) ?_))
        rw [toL_at h2.1 h2.2]
        refine ih _ ?_
        rw [← take_snoc _ _ hi, hs]
        congr 2
        rw [mv, if_pos hb]
        rw [hb]
      · refine Evp.yes (by omega) (ih _ ?_)
        rw [← take_snoc _ _ hi, hs]
        congr 2
        rw [mv, if_neg hb]
  exact key 0 (Nat.zero_le _) [] (by simp)
theorem mv_ok {n : Nat} {o : List Int} {v : S46} (h0 : (0 : Int) ∉ o) (hn : n ≤ 1073741824) (hv : valOk n v = true) : l12_mv (g_numL n o) v = some (mv o v) := by
  unfold l12_mv mv
  by_cases hb : v.f0 = true
  · have h2 := valOk_iff.1 hv hb
    rw [if_pos hb, if_pos hb]
    by_cases hp : 0 < v.f1
    · have hw : wrap64 (v.f1 - 1) = v.f1 - 1 := w64 (by omega) (by omega)
      rw [if_pos hp, hw, length_numL, if_pos (by omega), numL_at (by omega) h2.2]
    · have : v.f1 = 0 := by omega
      rw [if_neg hp]
      obtain ⟨b, m⟩ := v
      simp only at hb this
      subst hb
      subst this
      simp [g_num, h0]
  · rw [if_neg hb, if_neg hb]
theorem all_ok {n : Nat} {o : List Int} {vs : List S46} (h0 : (0 : Int) ∉ o) (hn : n ≤ 1073741824) (hl : vs.length ≤ 1073741824) (hv : ∀ v ∈ vs, valOk n v = true) : Evp (fun k => l12_all.f k (g_numL n o) vs) (fun r => r = vs.map (mv o)) := by
  unfold l12_all.f
  have key : ∀ i, i ≤ vs.length → ∀ s : List S46, s = (vs.take i).map (mv o) → Evp (fun k => l12_all.l0 k (g_numL n o) vs (i : Int) s) (fun r => r = vs.map (mv o)) := by
    refine Evp.fors (g := fun i s k => l12_all.l0 k (g_numL n o) vs (i : Int) s) (I := fun i s => s = (vs.take i).map (mv o)) (R := fun _ _ r => r = vs.map (mv o)) (fun s hs => ?_) (fun i hi ih s hs => ?_)
    · refine Evp.step (f := fun k => _) (fun k => by rw [l12_all.l0]) (Evp.no (by omega) (Evp.pure s ?_))
      rw [hs, List.take_length]
    · have hsl : s.length ≤ vs.length := by rw [hs]; simp; omega
      refine Evp.step (f := fun k => _) (fun k => by rw [l12_all.l0, rd46 hi, mv_ok h0 hn (hv _ (List.getElem_mem hi)), Option.bind_some, w64' hi (by omega)]) (Evp.yes (by omega) (Evp.yes (by omega) (Evp.yes (by omega) ?_)))
      refine ih _ ?_
      rw [← take_snoc _ _ hi, hs]
  exact key 0 (Nat.zero_le _) [] (by simp)
theorem out_ok {objs : List S48} {o : List Int} (hf : Fine objs) (ho : Inv objs.length o) : Evp (fun k => g_out k objs (g_toL (objs.length + 1) o) o 0 []) (fun r => r = o.map (objP objs o)) := by
  have hn := hf.n
  have hlen := ho.len
  have key : ∀ i, i ≤ o.length → ∀ s : List S48, s = (o.take i).map (objP objs o) → Evp (fun k => g_out k objs (g_toL (objs.length + 1) o) o (i : Int) s) (fun r => r = o.map (objP objs o)) := by
    refine Evp.fors (g := fun i s k => g_out k objs (g_toL (objs.length + 1) o) o (i : Int) s) (I := fun i s => s = (o.take i).map (objP objs o)) (R := fun _ _ r => r = o.map (objP objs o)) (fun s hs => ?_) (fun i hi ih s hs => ?_)
    · refine Evp.step (f := fun k => _) (fun k => by rw [g_out]) (Evp.no (by omega) (Evp.pure s ?_))
      rw [hs, List.take_length]
    · have hx := ho.2 _ (List.getElem_mem hi)
      have hw : wrap64 (o[i] - 1) = o[i] - 1 := w64 (by omega) (by omega)
      have hv := hf.vals hx.1 hx.2
      have hsl : s.length ≤ o.length := by rw [hs]; simp; omega
      refine Evp.step (f := fun k => _) (fun k => by rw [g_out, rd_int hi, hw, rd_obj hx.1 hx.2, w64' hi (by omega)]) (Evp.yes (by omega) (Evp.yes (by omega) ?_))
      refine Evp.bind (f := fun k vs => if s.length < 4398046511104 then g_out k objs (g_toL (objs.length + 1) o) o ((i + 1 : Nat) : Int) (s ++ [(⟨(rd_T48 objs (o[i] - 1)).f0, vs⟩ : S48)]) else none) (move_ok hn hv.1 hv.2) (fun vs e => ?_)
      subst e
      refine Evp.yes (by omega) (ih _ ?_)
      rw [← take_snoc _ _ hi, hs]
      rfl
  exact key 0 (Nat.zero_le _) [] (by simp)
theorem out_ok' {objs : List S48} {o : List Int} (hf : Fine objs) (ho : Inv objs.length o) : Evp (fun k => l12_out k objs (g_numL objs.length o) o 0 []) (fun r => r = o.map (objP objs o)) := by
  have hn := hf.n
  have hlen := ho.len
  have h0 : (0 : Int) ∉ o := fun h => by have := ho.2 _ h; omega
  have key : ∀ i, i ≤ o.length → ∀ s : List S48, s = (o.take i).map (objP objs o) → Evp (fun k => l12_out k objs (g_numL objs.length o) o (i : Int) s) (fun r => r = o.map (objP objs o)) := by
    refine Evp.fors (g := fun i s k => l12_out k objs (g_numL objs.length o) o (i : Int) s) (I := fun i s => s = (o.take i).map (objP objs o)) (R := fun _ _ r => r = o.map (objP objs o)) (fun s hs => ?_) (fun i hi ih s hs => ?_)
    · refine Evp.step (f := fun k => _) (fun k => by rw [l12_out]) (Evp.no (by omega) (Evp.pure s ?_))
      rw [hs, List.take_length]
    · have hx := ho.2 _ (List.getElem_mem hi)
      have hw : wrap64 (o[i] - 1) = o[i] - 1 := w64 (by omega) (by omega)
      have hv := hf.vals hx.1 hx.2
      have hsl : s.length ≤ o.length := by rw [hs]; simp; omega
      refine Evp.step (f := fun k => _) (fun k => by rw [l12_out, rd_int hi, hw, rd_obj hx.1 hx.2, w64' hi (by omega)]) (Evp.yes (by omega) (Evp.yes (by omega) ?_))
      refine Evp.bind (f := fun k vs => if s.length < 4398046511104 then l12_out k objs (g_numL objs.length o) o ((i + 1 : Nat) : Int) (s ++ [(⟨(rd_T48 objs (o[i] - 1)).f0, vs⟩ : S48)]) else none) (all_ok h0 hn hv.1 hv.2) (fun vs e => ?_)
      subst e
      refine Evp.yes (by omega) (ih _ ?_)
      rw [← take_snoc _ _ hi, hs]
      rfl
  exact key 0 (Nat.zero_le _) [] (by simp)
theorem ord_inv {objs : List S48} {roots : List S46} (hf : Fine objs) (hr : ∀ v ∈ roots, valOk objs.length v = true) : Inv objs.length (ordP objs roots) := walk_inv hf _ _ _ ((Inv.nil _).fold hr)
theorem ord_ok {objs : List S48} {roots : List S46} (hf : Fine objs) (hl : roots.length ≤ 1073741824) (hr : ∀ v ∈ roots, valOk objs.length v = true) :
    Evp (fun k => (g_comes k (objs.length + 1) roots 0 []).bind fun o1 => g_walk k objs 0 o1) (fun r => r = ordP objs roots) := by
  refine Evp.bind (f := fun k o1 => g_walk k objs 0 o1) (comes_ok hf.n hl hr 0 (Nat.zero_le _) [] (Inv.nil _)) (fun o1 e => ?_)
  subst e
  exact walk_ok hf (objs.length + 1) 0 _ ((Inv.nil _).fold (by simpa using hr)) (by omega)
theorem impl_graph {objs : List S48} {roots : List S46} (hs : Small objs) (hl : roots.length ≤ 1073741824) : Evp (fun k => impl_HeapGraph.f k objs roots) (fun r => r = HG objs roots) := by
  unfold impl_HeapGraph.f
  refine Evp.bind (f := fun k ok => if ok = true then (if objs.length + 1 < 8796093022208 then ((g_comes k (objs.length + 1) roots 0 []).bind fun o1 => ((g_walk k objs 0 o1).bind fun o => ((g_out k objs (g_toL (objs.length + 1) o) o 0 []).bind fun g => ((impl_moveVals.f k roots (g_toL (objs.length + 1) o)).bind fun r => some (g, r))))) else none) else some ([], [])) (impl_heap hs hl) (fun ok e => ?_)
  subst e
  have hn := hs.1
  unfold HG
  refine Evp.ite (fun h => ?_) (fun h => Evp.pure _ (by rw [if_neg h]))
  rw [if_pos h]
  have hf := Fine.of hs h
  have hr := (heapOk_iff.1 h).1
  refine Evp.yes (by omega) ?_
  refine Evp.congr (f := fun k => ((g_comes k (objs.length + 1) roots 0 []).bind fun o1 => g_walk k objs 0 o1).bind fun o => ((g_out k objs (g_toL (objs.length + 1) o) o 0 []).bind fun g => ((impl_moveVals.f k roots (g_toL (objs.length + 1) o)).bind fun r => some (g, r)))) (fun k => by rw [Option.bind_assoc]) ?_
  refine Evp.bind (f := fun k o => ((g_out k objs (g_toL (objs.length + 1) o) o 0 []).bind fun g => ((impl_moveVals.f k roots (g_toL (objs.length + 1) o)).bind fun r => some (g, r)))) (ord_ok hf hl hr) (fun o e => ?_)
  subst e
  refine Evp.bind (f := fun k g => ((impl_moveVals.f k roots (g_toL (objs.length + 1) (ordP objs roots))).bind fun r => some (g, r))) (out_ok hf (ord_inv hf hr)) (fun g e => ?_)
  subst e
  refine Evp.bind (f := fun k r => some (_, r)) (move_ok hn hl hr) (fun r e => ?_)
  subst e
  exact Evp.pure _ rfl
theorem spec_graph {objs : List S48} {roots : List S46} (hs : Small objs) (hl : roots.length ≤ 1073741824) : Evp (fun k => spec_HeapGraph.f k objs roots) (fun r => r = HG objs roots) := by
  unfold spec_HeapGraph.f
  refine Evp.bind (f := fun k ok => if ok = true then ((spec_l12Graph.f k objs roots).bind fun b => (some (b.1, b.2))) else some ([], [])) (spec_heap hs hl) (fun ok e => ?_)
  subst e
  have hn := hs.1
  unfold HG
  refine Evp.ite (fun h => ?_) (fun h => Evp.pure _ (by rw [if_neg h]))
  rw [if_pos h]
  have hf := Fine.of hs h
  have hr := (heapOk_iff.1 h).1
  have h0 : (0 : Int) ∉ ordP objs roots := fun h => by have := (ord_inv hf hr).2 _ h; omega
  have key : Evp (fun k => spec_l12Graph.f k objs roots) (fun r => r = graphP objs roots) := by
    unfold spec_l12Graph.f
    refine Evp.yes (by omega) ?_
    refine Evp.congr (f := fun k => ((g_comes k (objs.length + 1) roots 0 []).bind fun o1 => g_walk k objs 0 o1).bind fun o => ((l12_out k objs (g_numL objs.length o) o 0 []).bind fun g => ((l12_all.f k (g_numL objs.length o) roots).bind fun r => some (g, r)))) (fun k => by rw [Option.bind_assoc]) ?_
    refine Evp.bind (f := fun k o => ((l12_out k objs (g_numL objs.length o) o 0 []).bind fun g => ((l12_all.f k (g_numL objs.length o) roots).bind fun r => some (g, r)))) (ord_ok hf hl hr) (fun o e => ?_)
    subst e
    refine Evp.bind (f := fun k g => ((l12_all.f k (g_numL objs.length (ordP objs roots)) roots).bind fun r => some (g, r))) (out_ok' hf (ord_inv hf hr)) (fun g e => ?_)
    subst e
    refine Evp.bind (f := fun k r => some (_, r)) (all_ok h0 hn hl hr) (fun r e => ?_)
    subst e
    exact Evp.pure _ rfl
  refine Evp.bind (f := fun k b => some (b.1, b.2)) key (fun b e => ?_)
  subst e
  exact Evp.pure _ rfl
end Go.Proofs.Yteeakklnlcjgbaa.Kit

end
