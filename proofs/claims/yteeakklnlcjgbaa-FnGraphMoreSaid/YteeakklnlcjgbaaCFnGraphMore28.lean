/- A part of the claim FnGraphMore: texts of this session and texts that its program printed out of the translation, joined. -/
import Derived.Test.YteeakklnlcjgbaaCFnGraphMore22
import Derived.Test.YteeakklnlcjgbaaCFnGraphMore23
import Derived.Test.YteeakklnlcjgbaaCFnGraphMore24
import Derived.Test.YteeakklnlcjgbaaCFnGraphMore25
import Derived.Test.YteeakklnlcjgbaaCFnGraphMore26
import Derived.Test.YteeakklnlcjgbaaCFnGraphMore27
import Derived.Test.YteeakklnlcjgbaaCFnGraphMore20
import Derived.Test.YteeakklnlcjgbaaCFnGraphMore0
import Derived.Test.YteeakklnlcjgbaaCFnGraphMore1
import Derived.Test.YteeakklnlcjgbaaCFnGraphMore2
import Derived.Test.YteeakklnlcjgbaaCFnGraphMore3
import Derived.Test.YteeakklnlcjgbaaCFnGraphMore4
import Derived.Test.YteeakklnlcjgbaaCFnGraphMore5
import Derived.Test.YteeakklnlcjgbaaCFnGraphMore6
import Derived.Test.YteeakklnlcjgbaaCFnGraphMore7
import Derived.Test.YteeakklnlcjgbaaCFnGraphMore8
import Derived.Test.YteeakklnlcjgbaaCFnGraphMore9
import Derived.Test.YteeakklnlcjgbaaCFnGraphMore10
import Derived.Test.YteeakklnlcjgbaaCFnGraphMore11
import Derived.Test.YteeakklnlcjgbaaCFnGraphMore12
import Derived.Test.YteeakklnlcjgbaaCFnGraphMore13
import Derived.Test.YteeakklnlcjgbaaCFnGraphMore14
import Derived.Test.YteeakklnlcjgbaaCFnGraphMore15
import Derived.Test.YteeakklnlcjgbaaCFnGraphMore16
import Derived.Test.YteeakklnlcjgbaaCFnGraphMore17
import Derived.Test.YteeakklnlcjgbaaCFnGraphMore18
import Derived.Test.YteeakklnlcjgbaaCFnGraphMore19
import Derived.Test.YteeakklnlcjgbaaCFnGraphMore21
section

namespace Go.Proofs.Yteeakklnlcjgbaa.P
open Go.RowKit Go.Proofs.YteeakklnlcjgbaaW.PrintWords Go.Proofs.YteeakklnlcjgbaaW.PrintLast Go.Proofs.YteeakklnlcjgbaaW.PrintMore
attribute [local go_sem] max2_int min2_int max_two min_two max_three min_three max_four min_four
set_option linter.unusedVariables false
set_option linter.unusedSimpArgs false
set_option maxHeartbeats 8000000 in
set_option maxRecDepth 100000 in
theorem laws_FnGraphMore.calls (k : Nat) (A0 : Option Addr) (c0 : Nat) (l0 : List Int) (r : Bool) (w : World) (hr0 : Kd.C (Kd.int .u8) w A0 l0.length l0) (hc0 : l0.length ≤ c0) (h : laws_FnGraphMore.f k l0 = some r) (hr_ : r = true) :
    Calls Try.prog 9 #[.slice A0 l0.length c0] w fun e w' => e = .returned (.bool r) ∧ Below w.heap.size w w' := by
  have hu46 := Try.underlying46
  have hu48 := Try.underlying48
  have HR0 := Aside0.mk hr0
  have HC0 := Aside0.mk hc0
  clear hr0 hc0
  have HB := Aside0.mk (Below.refl w.heap.size w)
  have H : (if (l0.length : Int) > 1048576 then (some true) else ((spec_DrawHeapGraph.f k l0).bind fun bt408 => ((impl_HeapGraph.f k bt408.1 bt408.2).bind fun bt414 => ((spec_HeapGraph.f k bt408.1 bt408.2).bind fun bt420 => ((laws_leObjs.f k bt414.1 bt420.1).bind fun t426 => (if t426 = true then ((laws_leVals.f k bt414.2 bt420.2).bind fun t427 => (if t427 = true then ((spec_HeapOk.f k bt408.1 bt408.2).bind fun t428 => (laws_FnGraphMore.j0 k bt408.1 bt408.2 bt414.1 bt414.2 bt420.1 bt420.2 (!t428))) else (laws_FnGraphMore.j0 k bt408.1 bt408.2 bt414.1 bt414.2 bt420.1 bt420.2 true))) else (laws_FnGraphMore.j0 k bt408.1 bt408.2 bt414.1 bt414.2 bt420.1 bt420.2 true))))))) = some r := h
  clear h
  by_cases c2 : (l0.length : Int) > 1048576
  · rw [if_pos c2] at H
    have c2b0 : decide (1048576 < (l0.length : Int)) = true := decide_eq_true c2
    have c2b1 : decide (1048576 < l0.length) = true := decide_eq_true (by omega)
    clear c2
    obtain rfl := Option.some.inj H
    simp only [Option.some.injEq, Prod.mk.injEq] at H
    obtain ⟨rfl⟩ := H
    go_enter Try.func9, Try.ntmps9
    go_wp2
    go_ret
    exact ⟨by first | rfl | (simp [errW_none, errW_some] <;> rfl) | (simp [*, errW_none, errW_some] <;> rfl), by repeat (first | (with_reducible first | exact HB.out | apply below_alloc | apply pw_below_drewN | apply below_drew1) | exact HB.out)⟩
  · rw [if_neg c2] at H
    have c2b0 : decide (1048576 < (l0.length : Int)) = false := decide_eq_false c2
    have c2b1 : decide (1048576 < l0.length) = false := decide_eq_false (by omega)
    clear c2
    replace H := Option.bind_eq_some_iff.mp H
    obtain ⟨⟨t408, t409⟩, A30, H⟩ := H
    replace H : ((impl_HeapGraph.f k t408 t409).bind fun bt414 => ((spec_HeapGraph.f k t408 t409).bind fun bt420 => ((laws_leObjs.f k bt414.1 bt420.1).bind fun t426 => (if t426 = true then ((laws_leVals.f k bt414.2 bt420.2).bind fun t427 => (if t427 = true then ((spec_HeapOk.f k t408 t409).bind fun t428 => (laws_FnGraphMore.j0 k t408 t409 bt414.1 bt414.2 bt420.1 bt420.2 (!t428))) else (laws_FnGraphMore.j0 k t408 t409 bt414.1 bt414.2 bt420.1 bt420.2 true))) else (laws_FnGraphMore.j0 k t408 t409 bt414.1 bt414.2 bt420.1 bt420.2 true))))) = some r := H
    have A3 := Aside0.mk A30
    clear A30
    replace H := Option.bind_eq_some_iff.mp H
    obtain ⟨⟨t414, t415⟩, A40, H⟩ := H
    replace H : ((spec_HeapGraph.f k t408 t409).bind fun bt420 => ((laws_leObjs.f k t414 bt420.1).bind fun t426 => (if t426 = true then ((laws_leVals.f k t415 bt420.2).bind fun t427 => (if t427 = true then ((spec_HeapOk.f k t408 t409).bind fun t428 => (laws_FnGraphMore.j0 k t408 t409 t414 t415 bt420.1 bt420.2 (!t428))) else (laws_FnGraphMore.j0 k t408 t409 t414 t415 bt420.1 bt420.2 true))) else (laws_FnGraphMore.j0 k t408 t409 t414 t415 bt420.1 bt420.2 true)))) = some r := H
    have A4 := Aside0.mk A40
    clear A40
    replace H := Option.bind_eq_some_iff.mp H
    obtain ⟨⟨t420, t421⟩, A50, H⟩ := H
    replace H : ((laws_leObjs.f k t414 t420).bind fun t426 => (if t426 = true then ((laws_leVals.f k t415 t421).bind fun t427 => (if t427 = true then ((spec_HeapOk.f k t408 t409).bind fun t428 => (laws_FnGraphMore.j0 k t408 t409 t414 t415 t420 t421 (!t428))) else (laws_FnGraphMore.j0 k t408 t409 t414 t415 t420 t421 true))) else (laws_FnGraphMore.j0 k t408 t409 t414 t415 t420 t421 true))) = some r := H
    have A5 := Aside0.mk A50
    clear A50
    have HC6 := Aside0.mk H
    clear H
    go_enter Try.func9, Try.ntmps9
    go_upto_region 6 with (first | ((with_reducible refine gate_callee (f := 29) rfl ?_); refine goesL_ (some 17) rfl rfl Try.func29 (by kernel_rfl) rfl #[.slice A0 l0.length c0] rfl (by (try simp only [List.map_toArray, List.map_cons, List.map_nil]); first | done | rfl | (simp only [List.length_drop, List.length_take]; rfl)) ?_; (with_reducible refine (spec_DrawHeapGraph.calls k _ _ l0 t408 t409 _ ?side1 ?side2 A3.out).mono ?_); (case side1 => repeat (first | exact HR0.out | (with_reducible refine Kd.C_alloc ?_ _) | (with_reducible refine Kd.C_drewN ?_ _) | (with_reducible refine Kd.C_drew ?_))); (case side2 => exact HC0.out); rintro e w7 ⟨v410, v412, rfl, ho0, ho1, hb⟩; refine ⟨_, rfl, ?_⟩; have n0_ := Aside0.mk (Kd.N_lower (Kd.N_mono (ok' := fun k_ => some k_ ≠ (v412 : Value).ownBlock) (Kd.S_N (Kd.S_bound ho0)) (fun k_ hk_ => hk_.1)) (below_size (by repeat (first | (with_reducible first | exact HB.out | apply below_alloc | apply pw_below_drewN | apply below_drew1) | exact HB.out)))); have n1_ := Aside0.mk (Kd.R_lower ho1 (below_size (by repeat (first | (with_reducible first | exact HB.out | apply below_alloc | apply pw_below_drewN | apply below_drew1) | exact HB.out)))); have n2_ := Aside0.mk (below_step (by repeat (first | (with_reducible first | exact HB.out | apply below_alloc | apply pw_below_drewN | apply below_drew1) | exact HB.out)) hb); clear HB; have HO411 := n0_; have HO413 := n1_; have HB := n2_; clear n0_ n1_ n2_; (try clear hb); (try clear hb2); (try clear hk); (try clear hi); (try clear ho0); (try clear ho1); obtain ⟨Ao8, co8, eo8⟩ := Kd.N_slice HO411.out; subst eo8; obtain ⟨Ao9, co9, eo9⟩ := Kd.R_slice HO413.out; subst eo9) | ((with_reducible refine gate_callee (f := 24) rfl ?_); refine goesL_ (some 23) rfl rfl Try.func24 (by kernel_rfl) rfl #[.slice Ao8 t408.length co8, .slice Ao9 t409.length co9] rfl (by (try simp only [List.map_toArray, List.map_cons, List.map_nil]); first | done | rfl | (simp only [List.length_drop, List.length_take]; rfl)) ?_; (with_reducible refine (impl_HeapGraph.calls k _ _ t408 _ _ t409 t414 t415 _ ?side1 ?side2 ?side3 ?side4 A4.out).mono ?_); (case side1 => repeat (first | exact (Kd.N_reads' HO411.out).2.2 | (with_reducible refine Kd.C_alloc ?_ _) | (with_reducible refine Kd.C_drewN ?_ _) | (with_reducible refine Kd.C_drew ?_))); (case side2 => exact (Kd.N_reads' HO411.out).2.1); (case side3 => repeat (first | exact (Kd.R_reads' HO413.out).2.2 | (with_reducible refine Kd.C_alloc ?_ _) | (with_reducible refine Kd.C_drewN ?_ _) | (with_reducible refine Kd.C_drew ?_))); (case side4 => exact (Kd.R_reads' HO413.out).2.1); rintro e w10 ⟨v416, v418, rfl, ho0, ho1, hb⟩; refine ⟨_, rfl, ?_⟩; have n0_ := Aside0.mk (Kd.N_mono (Kd.N_told (Kd.N_told (Kd.N_old (by (with_reducible repeat (first | apply Kd.N_alloc | apply Kd.N_drewN | apply Kd.N_drew)); exact HO411.out) hb) (Kd.S_base ho0)) (Kd.R_base ho1)) (fun _ h_ => h_.1)); have n1_ := Aside0.mk (Kd.R_elder' (by (with_reducible repeat (first | apply Kd.R_alloc | apply Kd.R_drewN | apply Kd.R_drew)); exact HO413.out) (Kd.R_base ho1) hb); have n2_ := Aside0.mk (Kd.N_lower (Kd.N_mono (ok' := fun k_ => some k_ ≠ (v418 : Value).ownBlock ∧ some k_ ≠ (.slice Ao8 t408.length co8 : Value).ownBlock ∧ some k_ ≠ (.slice Ao9 t409.length co9 : Value).ownBlock) (Kd.S_N (Kd.S_bound ho0)) (fun k_ hk_ => ⟨hk_.1, (Kd.fresh' (Kd.N_lt (by (with_reducible repeat (first | apply Kd.N_alloc | apply Kd.N_drewN | apply Kd.N_drew)); exact HO411.out)) k_ hk_.2.1), (Kd.fresh' (Kd.R_lt (by (with_reducible repeat (first | apply Kd.R_alloc | apply Kd.R_drewN | apply Kd.R_drew)); exact HO413.out)) k_ hk_.2.1)⟩)) (below_size (by repeat (first | (with_reducible first | exact HB.out | apply below_alloc | apply pw_below_drewN | apply below_drew1) | exact HB.out)))); have n3_ := Aside0.mk (Kd.R_lower (Kd.R_new' ho1 (Kd.R_lt (by (with_reducible repeat (first | apply Kd.R_alloc | apply Kd.R_drewN | apply Kd.R_drew)); exact HO413.out))) (below_size (by repeat (first | (with_reducible first | exact HB.out | apply below_alloc | apply pw_below_drewN | apply below_drew1) | exact HB.out)))); have n4_ := Aside0.mk (below_step (by repeat (first | (with_reducible first | exact HB.out | apply below_alloc | apply pw_below_drewN | apply below_drew1) | exact HB.out)) hb); clear HO411; clear HO413; clear HB; have HO411 := n0_; have HO413 := n1_; have HO417 := n2_; have HO419 := n3_; have HB := n4_; clear n0_ n1_ n2_ n3_ n4_; (try clear hb); (try clear hb2); (try clear hk); (try clear hi); (try clear ho0); (try clear ho1)) | ((with_reducible refine gate_callee (f := 23) rfl ?_); refine goesL_ (some 29) rfl rfl Try.func23 (by kernel_rfl) rfl #[.slice Ao8 t408.length co8, .slice Ao9 t409.length co9] rfl (by (try simp only [List.map_toArray, List.map_cons, List.map_nil]); first | done | rfl | (simp only [List.length_drop, List.length_take]; rfl)) ?_; (with_reducible refine (spec_HeapGraph.calls k _ _ t408 _ _ t409 t420 t421 _ ?side1 ?side2 ?side3 ?side4 A5.out).mono ?_); (case side1 => repeat (first | exact (Kd.N_reads' HO411.out).2.2 | (with_reducible refine Kd.C_alloc ?_ _) | (with_reducible refine Kd.C_drewN ?_ _) | (with_reducible refine Kd.C_drew ?_))); (case side2 => exact (Kd.N_reads' HO411.out).2.1); (case side3 => repeat (first | exact (Kd.R_reads' HO413.out).2.2 | (with_reducible refine Kd.C_alloc ?_ _) | (with_reducible refine Kd.C_drewN ?_ _) | (with_reducible refine Kd.C_drew ?_))); (case side4 => exact (Kd.R_reads' HO413.out).2.1); rintro e w11 ⟨v422, v424, rfl, ho0, ho1, hb⟩; refine ⟨_, rfl, ?_⟩; have n0_ := Aside0.mk (Kd.N_mono (Kd.N_told (Kd.N_told (Kd.N_old (by (with_reducible repeat (first | apply Kd.N_alloc | apply Kd.N_drewN | apply Kd.N_drew)); exact HO411.out) hb) (Kd.S_base ho0)) (Kd.R_base ho1)) (fun _ h_ => h_.1)); have n1_ := Aside0.mk (Kd.R_elder' (by (with_reducible repeat (first | apply Kd.R_alloc | apply Kd.R_drewN | apply Kd.R_drew)); exact HO413.out) (Kd.R_base ho1) hb); have n2_ := Aside0.mk (Kd.N_mono (Kd.N_told (Kd.N_told (Kd.N_old (by (with_reducible repeat (first | apply Kd.N_alloc | apply Kd.N_drewN | apply Kd.N_drew)); exact HO417.out) hb) (Kd.S_base ho0)) (Kd.R_base ho1)) (fun _ h_ => h_.1)); have n3_ := Aside0.mk (Kd.R_elder' (by (with_reducible repeat (first | apply Kd.R_alloc | apply Kd.R_drewN | apply Kd.R_drew)); exact HO419.out) (Kd.R_base ho1) hb); have n4_ := Aside0.mk (Kd.N_lower (Kd.N_mono (ok' := fun k_ => some k_ ≠ (v424 : Value).ownBlock ∧ some k_ ≠ (.slice Ao8 t408.length co8 : Value).ownBlock ∧ some k_ ≠ (.slice Ao9 t409.length co9 : Value).ownBlock ∧ some k_ ≠ (v416 : Value).ownBlock ∧ some k_ ≠ (v418 : Value).ownBlock) (Kd.S_N (Kd.S_bound ho0)) (fun k_ hk_ => ⟨hk_.1, (Kd.fresh' (Kd.N_lt (by (with_reducible repeat (first | apply Kd.N_alloc | apply Kd.N_drewN | apply Kd.N_drew)); exact HO411.out)) k_ hk_.2.1), (Kd.fresh' (Kd.R_lt (by (with_reducible repeat (first | apply Kd.R_alloc | apply Kd.R_drewN | apply Kd.R_drew)); exact HO413.out)) k_ hk_.2.1), (Kd.fresh' (Kd.N_lt (by (with_reducible repeat (first | apply Kd.N_alloc | apply Kd.N_drewN | apply Kd.N_drew)); exact HO417.out)) k_ hk_.2.1), (Kd.fresh' (Kd.R_lt (by (with_reducible repeat (first | apply Kd.R_alloc | apply Kd.R_drewN | apply Kd.R_drew)); exact HO419.out)) k_ hk_.2.1)⟩)) (below_size (by repeat (first | (with_reducible first | exact HB.out | apply below_alloc | apply pw_below_drewN | apply below_drew1) | exact HB.out)))); have n5_ := Aside0.mk (Kd.R_lower (Kd.R_new' (Kd.R_new' ho1 (Kd.R_lt (by (with_reducible repeat (first | apply Kd.R_alloc | apply Kd.R_drewN | apply Kd.R_drew)); exact HO413.out))) (Kd.R_lt (by (with_reducible repeat (first | apply Kd.R_alloc | apply Kd.R_drewN | apply Kd.R_drew)); exact HO419.out))) (below_size (by repeat (first | (with_reducible first | exact HB.out | apply below_alloc | apply pw_below_drewN | apply below_drew1) | exact HB.out)))); have n6_ := Aside0.mk (below_step (by repeat (first | (with_reducible first | exact HB.out | apply below_alloc | apply pw_below_drewN | apply below_drew1) | exact HB.out)) hb); clear HO411; clear HO413; clear HO417; clear HO419; clear HB; have HO411 := n0_; have HO413 := n1_; have HO417 := n2_; have HO419 := n3_; have HO423 := n4_; have HO425 := n5_; have HB := n6_; clear n0_ n1_ n2_ n3_ n4_ n5_ n6_; (try clear hb); (try clear hb2); (try clear hk); (try clear hi); (try clear ho0); (try clear ho1)))
    (try simp only [Act.put, List.setIfInBounds_toArray, List.set_cons_zero, List.set_cons_succ])
    go_cut [47] (fun v47 wc => ∃ (kq : Nat) (x47_5 : Bool), v47 = .bool x47_5 ∧ Aside0 (laws_FnGraphMore.j0 kq t408 t409 t414 t415 t420 t421 x47_5 = some r) ∧ Aside0 (kq ≤ k) ∧ Aside0 (Kd.N k48 48 wc w.heap.size (fun k_ => some k_ ≠ ((.slice Ao9 t409.length co9) : Value).ownBlock ∧ some k_ ≠ (v416 : Value).ownBlock ∧ some k_ ≠ (v418 : Value).ownBlock ∧ some k_ ≠ (v422 : Value).ownBlock ∧ some k_ ≠ (v424 : Value).ownBlock) (.slice Ao8 t408.length co8) t408) ∧ Aside0 (Kd.R k46 46 wc w.heap.size (fun k_ => some k_ ≠ (v418 : Value).ownBlock ∧ some k_ ≠ (v424 : Value).ownBlock) (.slice Ao9 t409.length co9) t409) ∧ Aside0 (Kd.N k48 48 wc w.heap.size (fun k_ => some k_ ≠ ((.slice Ao8 t408.length co8) : Value).ownBlock ∧ some k_ ≠ ((.slice Ao9 t409.length co9) : Value).ownBlock ∧ some k_ ≠ (v418 : Value).ownBlock ∧ some k_ ≠ (v422 : Value).ownBlock ∧ some k_ ≠ (v424 : Value).ownBlock) v416 t414) ∧ Aside0 (Kd.R k46 46 wc w.heap.size (fun k_ => some k_ ≠ ((.slice Ao9 t409.length co9) : Value).ownBlock ∧ some k_ ≠ (v424 : Value).ownBlock) v418 t415) ∧ Aside0 (Kd.N k48 48 wc w.heap.size (fun k_ => some k_ ≠ ((.slice Ao8 t408.length co8) : Value).ownBlock ∧ some k_ ≠ ((.slice Ao9 t409.length co9) : Value).ownBlock ∧ some k_ ≠ (v416 : Value).ownBlock ∧ some k_ ≠ (v418 : Value).ownBlock ∧ some k_ ≠ (v424 : Value).ownBlock) v422 t420) ∧ Aside0 (Kd.R k46 46 wc w.heap.size (fun k_ => some k_ ≠ ((.slice Ao9 t409.length co9) : Value).ownBlock ∧ some k_ ≠ (v418 : Value).ownBlock) v424 t421) ∧ Aside0 (Below w.heap.size w wc))
    case first =>
      have H := HC6.out
      clear HC6
      replace H := Option.bind_eq_some_iff.mp H
      obtain ⟨t426, A120, H⟩ := H
      replace H : (if t426 = true then ((laws_leVals.f k t415 t421).bind fun t427 => (if t427 = true then ((spec_HeapOk.f k t408 t409).bind fun t428 => (laws_FnGraphMore.j0 k t408 t409 t414 t415 t420 t421 (!t428))) else (laws_FnGraphMore.j0 k t408 t409 t414 t415 t420 t421 true))) else (laws_FnGraphMore.j0 k t408 t409 t414 t415 t420 t421 true)) = some r := H
      have A12 := Aside0.mk A120
      clear A120
      by_cases c13 : t426 = true
      · subst c13
        have H1 : ((laws_leVals.f k t415 t421).bind fun t427 => (if t427 = true then ((spec_HeapOk.f k t408 t409).bind fun t428 => (laws_FnGraphMore.j0 k t408 t409 t414 t415 t420 t421 (!t428))) else (laws_FnGraphMore.j0 k t408 t409 t414 t415 t420 t421 true))) = some r := by rw [if_pos rfl] at H; exact H
        clear H
        have H := H1
        clear H1
        replace H := Option.bind_eq_some_iff.mp H
        obtain ⟨t427, A140, H⟩ := H
        replace H : (if t427 = true then ((spec_HeapOk.f k t408 t409).bind fun t428 => (laws_FnGraphMore.j0 k t408 t409 t414 t415 t420 t421 (!t428))) else (laws_FnGraphMore.j0 k t408 t409 t414 t415 t420 t421 true)) = some r := H
        have A14 := Aside0.mk A140
        clear A140
        by_cases c15 : t427 = true
        · subst c15
          have H1 : ((spec_HeapOk.f k t408 t409).bind fun t428 => (laws_FnGraphMore.j0 k t408 t409 t414 t415 t420 t421 (!t428))) = some r := by rw [if_pos rfl] at H; exact H
          clear H
          have H := H1
          clear H1
          replace H := Option.bind_eq_some_iff.mp H
          obtain ⟨t428, A160, H⟩ := H
          replace H : (laws_FnGraphMore.j0 k t408 t409 t414 t415 t420 t421 (!t428)) = some r := H
          have A16 := Aside0.mk A160
          clear A160
          have H' := Aside0.mk H
          clear H
          obtain ⟨Ao17, co17, eo17⟩ := Kd.N_slice HO417.out
          subst eo17
          obtain ⟨Ao18, co18, eo18⟩ := Kd.N_slice HO423.out
          subst eo18
          go_wp2_with (first | ((with_reducible refine gate_callee (f := 30) rfl ?_); refine goesL_ (some 34) rfl rfl Try.func30 (by kernel_rfl) rfl #[.slice Ao17 t414.length co17, .slice Ao18 t420.length co18] rfl (by (try simp only [List.map_toArray, List.map_cons, List.map_nil]); first | done | rfl | (simp only [List.length_drop, List.length_take]; rfl)) ?_; (with_reducible refine (laws_leObjs.calls k _ _ t414 _ _ t420 true _ ?side1 ?side2 ?side3 ?side4 A12.out).mono ?_); (case side1 => repeat (first | exact (Kd.N_reads' HO417.out).2.2 | (with_reducible refine Kd.C_alloc ?_ _) | (with_reducible refine Kd.C_drewN ?_ _) | (with_reducible refine Kd.C_drew ?_))); (case side2 => exact (Kd.N_reads' HO417.out).2.1); (case side3 => repeat (first | exact (Kd.N_reads' HO423.out).2.2 | (with_reducible refine Kd.C_alloc ?_ _) | (with_reducible refine Kd.C_drewN ?_ _) | (with_reducible refine Kd.C_drew ?_))); (case side4 => exact (Kd.N_reads' HO423.out).2.1); rintro e w' ⟨rfl, ⟨nd, rfl⟩⟩; refine ⟨_, rfl, ?_⟩; obtain ⟨Ao19, co19, eo19⟩ := Kd.R_slice HO419.out; subst eo19; obtain ⟨Ao20, co20, eo20⟩ := Kd.R_slice HO425.out; subst eo20) | (go_at_call 31; (with_reducible refine (laws_leVals.calls k _ _ t415 _ _ t421 true _ ?side1 ?side2 ?side3 ?side4 A14.out).mono ?_); (case side1 => repeat (first | exact (Kd.R_reads' HO419.out).2.2 | (with_reducible refine Kd.C_alloc ?_ _) | (with_reducible refine Kd.C_drewN ?_ _) | (with_reducible refine Kd.C_drew ?_))); (case side2 => exact (Kd.R_reads' HO419.out).2.1); (case side3 => repeat (first | exact (Kd.R_reads' HO425.out).2.2 | (with_reducible refine Kd.C_alloc ?_ _) | (with_reducible refine Kd.C_drewN ?_ _) | (with_reducible refine Kd.C_drew ?_))); (case side4 => exact (Kd.R_reads' HO425.out).2.1); rintro e w' ⟨rfl, ⟨nd, rfl⟩⟩) | (go_at_call 17; (with_reducible refine (spec_HeapOk.calls k _ _ t408 _ _ t409 t428 _ ?side1 ?side2 ?side3 ?side4 A16.out).mono ?_); (case side1 => repeat (first | exact (Kd.N_reads' HO411.out).2.2 | (with_reducible refine Kd.C_alloc ?_ _) | (with_reducible refine Kd.C_drewN ?_ _) | (with_reducible refine Kd.C_drew ?_))); (case side2 => exact (Kd.N_reads' HO411.out).2.1); (case side3 => repeat (first | exact (Kd.R_reads' HO413.out).2.2 | (with_reducible refine Kd.C_alloc ?_ _) | (with_reducible refine Kd.C_drewN ?_ _) | (with_reducible refine Kd.C_drew ?_))); (case side4 => exact (Kd.R_reads' HO413.out).2.1); rintro e w21 ⟨rfl, hb⟩; have n0_ := Aside0.mk (Kd.N_below (by (with_reducible repeat (first | apply Kd.N_alloc | apply Kd.N_drewN | apply Kd.N_drew)); exact HO411.out) hb); have n1_ := Aside0.mk (Kd.R_below (by (with_reducible repeat (first | apply Kd.R_alloc | apply Kd.R_drewN | apply Kd.R_drew)); exact HO413.out) hb); have n2_ := Aside0.mk (Kd.N_below (by (with_reducible repeat (first | apply Kd.N_alloc | apply Kd.N_drewN | apply Kd.N_drew)); exact HO417.out) hb); have n3_ := Aside0.mk (Kd.R_below (by (with_reducible repeat (first | apply Kd.R_alloc | apply Kd.R_drewN | apply Kd.R_drew)); exact HO419.out) hb); have n4_ := Aside0.mk (Kd.N_below (by (with_reducible repeat (first | apply Kd.N_alloc | apply Kd.N_drewN | apply Kd.N_drew)); exact HO423.out) hb); have n5_ := Aside0.mk (Kd.R_below (by (with_reducible repeat (first | apply Kd.R_alloc | apply Kd.R_drewN | apply Kd.R_drew)); exact HO425.out) hb); have n6_ := Aside0.mk (below_step (by repeat (first | (with_reducible first | exact HB.out | apply below_alloc | apply pw_below_drewN | apply below_drew1) | exact HB.out)) hb); clear HO411; clear HO413; clear HO417; clear HO419; clear HO423; clear HO425; clear HB; have HO411 := n0_; have HO413 := n1_; have HO417 := n2_; have HO419 := n3_; have HO423 := n4_; have HO425 := n5_; have HB := n6_; clear n0_ n1_ n2_ n3_ n4_ n5_ n6_; (try clear hb); (try clear hb2); (try clear hk); (try clear hi)))
          go_meet
          case rel => exact ⟨_, (!t428), (by first | rfl | (simp; done) | (simp [*]; done)), H', ⟨by first | omega | exact Nat.le_refl _⟩, ⟨by (with_reducible repeat (first | apply Kd.N_alloc | apply Kd.N_drewN | apply Kd.N_drew)); exact Kd.N_mono HO411.out (fun _ hk => ⟨hk.1.1.1.1, ⟨hk.1.1.1.2, ⟨hk.1.1.2, ⟨hk.1.2, hk.2⟩⟩⟩⟩)⟩, ⟨by (with_reducible repeat (first | apply Kd.R_alloc | apply Kd.R_drewN | apply Kd.R_drew)); exact Kd.R_mono HO413.out (fun _ hk => ⟨hk.1.2, hk.2⟩)⟩, ⟨by (with_reducible repeat (first | apply Kd.N_alloc | apply Kd.N_drewN | apply Kd.N_drew)); exact Kd.N_mono HO417.out (fun _ hk => ⟨hk.1.1.2.1, ⟨hk.1.1.2.2, ⟨hk.1.1.1, ⟨hk.1.2, hk.2⟩⟩⟩⟩)⟩, ⟨by (with_reducible repeat (first | apply Kd.R_alloc | apply Kd.R_drewN | apply Kd.R_drew)); exact Kd.R_mono HO419.out (fun _ hk => ⟨hk.1.2, hk.2⟩)⟩, ⟨by (with_reducible repeat (first | apply Kd.N_alloc | apply Kd.N_drewN | apply Kd.N_drew)); exact Kd.N_mono HO423.out (fun _ hk => ⟨hk.2.1, ⟨hk.2.2.1, ⟨hk.2.2.2.1, ⟨hk.2.2.2.2, hk.1⟩⟩⟩⟩)⟩, ⟨by (with_reducible repeat (first | apply Kd.R_alloc | apply Kd.R_drewN | apply Kd.R_drew)); exact Kd.R_mono HO425.out (fun _ hk => ⟨hk.1.2, hk.2⟩)⟩, ⟨by repeat (first | (with_reducible first | exact HB.out | apply below_alloc | apply pw_below_drewN | apply below_drew1) | exact HB.out)⟩⟩
        · replace c15 := Bool.eq_false_iff.mpr c15
          subst c15
          have H1 : (laws_FnGraphMore.j0 k t408 t409 t414 t415 t420 t421 true) = some r := by rw [if_neg (show ¬ (false = true) by decide)] at H; exact H
          clear H
          have H := H1
          clear H1
          have H' := Aside0.mk H
          clear H
          obtain ⟨Ao22, co22, eo22⟩ := Kd.N_slice HO417.out
          subst eo22
          obtain ⟨Ao23, co23, eo23⟩ := Kd.N_slice HO423.out
          subst eo23
          go_wp2_with (first | ((with_reducible refine gate_callee (f := 30) rfl ?_); refine goesL_ (some 34) rfl rfl Try.func30 (by kernel_rfl) rfl #[.slice Ao22 t414.length co22, .slice Ao23 t420.length co23] rfl (by (try simp only [List.map_toArray, List.map_cons, List.map_nil]); first | done | rfl | (simp only [List.length_drop, List.length_take]; rfl)) ?_; (with_reducible refine (laws_leObjs.calls k _ _ t414 _ _ t420 true _ ?side1 ?side2 ?side3 ?side4 A12.out).mono ?_); (case side1 => repeat (first | exact (Kd.N_reads' HO417.out).2.2 | (with_reducible refine Kd.C_alloc ?_ _) | (with_reducible refine Kd.C_drewN ?_ _) | (with_reducible refine Kd.C_drew ?_))); (case side2 => exact (Kd.N_reads' HO417.out).2.1); (case side3 => repeat (first | exact (Kd.N_reads' HO423.out).2.2 | (with_reducible refine Kd.C_alloc ?_ _) | (with_reducible refine Kd.C_drewN ?_ _) | (with_reducible refine Kd.C_drew ?_))); (case side4 => exact (Kd.N_reads' HO423.out).2.1); rintro e w' ⟨rfl, ⟨nd, rfl⟩⟩; refine ⟨_, rfl, ?_⟩; obtain ⟨Ao24, co24, eo24⟩ := Kd.R_slice HO419.out; subst eo24; obtain ⟨Ao25, co25, eo25⟩ := Kd.R_slice HO425.out; subst eo25) | (go_at_call 31; (with_reducible refine (laws_leVals.calls k _ _ t415 _ _ t421 false _ ?side1 ?side2 ?side3 ?side4 A14.out).mono ?_); (case side1 => repeat (first | exact (Kd.R_reads' HO419.out).2.2 | (with_reducible refine Kd.C_alloc ?_ _) | (with_reducible refine Kd.C_drewN ?_ _) | (with_reducible refine Kd.C_drew ?_))); (case side2 => exact (Kd.R_reads' HO419.out).2.1); (case side3 => repeat (first | exact (Kd.R_reads' HO425.out).2.2 | (with_reducible refine Kd.C_alloc ?_ _) | (with_reducible refine Kd.C_drewN ?_ _) | (with_reducible refine Kd.C_drew ?_))); (case side4 => exact (Kd.R_reads' HO425.out).2.1); rintro e w' ⟨rfl, ⟨nd, rfl⟩⟩))
          go_meet
          case rel => exact ⟨_, (true), (by first | rfl | (simp; done) | (simp [*]; done)), H', ⟨by first | omega | exact Nat.le_refl _⟩, ⟨by (with_reducible repeat (first | apply Kd.N_alloc | apply Kd.N_drewN | apply Kd.N_drew)); exact Kd.N_mono HO411.out (fun _ hk => ⟨hk.1.1.1.1, ⟨hk.1.1.1.2, ⟨hk.1.1.2, ⟨hk.1.2, hk.2⟩⟩⟩⟩)⟩, ⟨by (with_reducible repeat (first | apply Kd.R_alloc | apply Kd.R_drewN | apply Kd.R_drew)); exact Kd.R_mono HO413.out (fun _ hk => ⟨hk.1.2, hk.2⟩)⟩, ⟨by (with_reducible repeat (first | apply Kd.N_alloc | apply Kd.N_drewN | apply Kd.N_drew)); exact Kd.N_mono HO417.out (fun _ hk => ⟨hk.1.1.2.1, ⟨hk.1.1.2.2, ⟨hk.1.1.1, ⟨hk.1.2, hk.2⟩⟩⟩⟩)⟩, ⟨by (with_reducible repeat (first | apply Kd.R_alloc | apply Kd.R_drewN | apply Kd.R_drew)); exact Kd.R_mono HO419.out (fun _ hk => ⟨hk.1.2, hk.2⟩)⟩, ⟨by (with_reducible repeat (first | apply Kd.N_alloc | apply Kd.N_drewN | apply Kd.N_drew)); exact Kd.N_mono HO423.out (fun _ hk => ⟨hk.2.1, ⟨hk.2.2.1, ⟨hk.2.2.2.1, ⟨hk.2.2.2.2, hk.1⟩⟩⟩⟩)⟩, ⟨by (with_reducible repeat (first | apply Kd.R_alloc | apply Kd.R_drewN | apply Kd.R_drew)); exact Kd.R_mono HO425.out (fun _ hk => ⟨hk.1.2, hk.2⟩)⟩, ⟨by repeat (first | (with_reducible first | exact HB.out | apply below_alloc | apply pw_below_drewN | apply below_drew1) | exact HB.out)⟩⟩
      · replace c13 := Bool.eq_false_iff.mpr c13
        subst c13
        have H1 : (laws_FnGraphMore.j0 k t408 t409 t414 t415 t420 t421 true) = some r := by rw [if_neg (show ¬ (false = true) by decide)] at H; exact H
        clear H
        have H := H1
        clear H1
        have H' := Aside0.mk H
        clear H
        obtain ⟨Ao26, co26, eo26⟩ := Kd.N_slice HO417.out
        subst eo26
        obtain ⟨Ao27, co27, eo27⟩ := Kd.N_slice HO423.out
        subst eo27
        go_wp2_with (first | ((with_reducible refine gate_callee (f := 30) rfl ?_); refine goesL_ (some 34) rfl rfl Try.func30 (by kernel_rfl) rfl #[.slice Ao26 t414.length co26, .slice Ao27 t420.length co27] rfl (by (try simp only [List.map_toArray, List.map_cons, List.map_nil]); first | done | rfl | (simp only [List.length_drop, List.length_take]; rfl)) ?_; (with_reducible refine (laws_leObjs.calls k _ _ t414 _ _ t420 false _ ?side1 ?side2 ?side3 ?side4 A12.out).mono ?_); (case side1 => repeat (first | exact (Kd.N_reads' HO417.out).2.2 | (with_reducible refine Kd.C_alloc ?_ _) | (with_reducible refine Kd.C_drewN ?_ _) | (with_reducible refine Kd.C_drew ?_))); (case side2 => exact (Kd.N_reads' HO417.out).2.1); (case side3 => repeat (first | exact (Kd.N_reads' HO423.out).2.2 | (with_reducible refine Kd.C_alloc ?_ _) | (with_reducible refine Kd.C_drewN ?_ _) | (with_reducible refine Kd.C_drew ?_))); (case side4 => exact (Kd.N_reads' HO423.out).2.1); rintro e w' ⟨rfl, ⟨nd, rfl⟩⟩; refine ⟨_, rfl, ?_⟩))
        go_meet
        case rel => exact ⟨_, (true), (by first | rfl | (simp; done) | (simp [*]; done)), H', ⟨by first | omega | exact Nat.le_refl _⟩, ⟨by (with_reducible repeat (first | apply Kd.N_alloc | apply Kd.N_drewN | apply Kd.N_drew)); exact Kd.N_mono HO411.out (fun _ hk => ⟨hk.1.1.1.1, ⟨hk.1.1.1.2, ⟨hk.1.1.2, ⟨hk.1.2, hk.2⟩⟩⟩⟩)⟩, ⟨by (with_reducible repeat (first | apply Kd.R_alloc | apply Kd.R_drewN | apply Kd.R_drew)); exact Kd.R_mono HO413.out (fun _ hk => ⟨hk.1.2, hk.2⟩)⟩, ⟨by (with_reducible repeat (first | apply Kd.N_alloc | apply Kd.N_drewN | apply Kd.N_drew)); exact Kd.N_mono HO417.out (fun _ hk => ⟨hk.1.1.2.1, ⟨hk.1.1.2.2, ⟨hk.1.1.1, ⟨hk.1.2, hk.2⟩⟩⟩⟩)⟩, ⟨by (with_reducible repeat (first | apply Kd.R_alloc | apply Kd.R_drewN | apply Kd.R_drew)); exact Kd.R_mono HO419.out (fun _ hk => ⟨hk.1.2, hk.2⟩)⟩, ⟨by (with_reducible repeat (first | apply Kd.N_alloc | apply Kd.N_drewN | apply Kd.N_drew)); exact Kd.N_mono HO423.out (fun _ hk => ⟨hk.2.1, ⟨hk.2.2.1, ⟨hk.2.2.2.1, ⟨hk.2.2.2.2, hk.1⟩⟩⟩⟩)⟩, ⟨by (with_reducible repeat (first | apply Kd.R_alloc | apply Kd.R_drewN | apply Kd.R_drew)); exact Kd.R_mono HO425.out (fun _ hk => ⟨hk.1.2, hk.2⟩)⟩, ⟨by repeat (first | (with_reducible first | exact HB.out | apply below_alloc | apply pw_below_drewN | apply below_drew1) | exact HB.out)⟩⟩
    case rest =>
      clear HC6
      try clear c1
      try clear c2
      try clear c2b0
      try clear c2b1
      try clear p2
      try clear c3
      try clear c9
      try clear c13
      try clear c15
      try clear c23
      try clear c24
      obtain ⟨kq, x47_5, rfl, HA, HJ5, HO_3, HO_4, HO_5, HO_6, HO_7, HO_8, HB⟩ := hcut
      cases kq with
      | zero => exact absurd HA.out (by simp [laws_FnGraphMore.j0])
      | succ kj5 =>
        have H := HA.out
        clear HA
        simp only [laws_FnGraphMore.j0] at H
        by_cases c28 : x47_5 = true
        · subst c28
          have H1 : ((laws_leObjs.f kj5 t414 t420).bind fun t429 => (if t429 = true then ((laws_leVals.f kj5 t415 t421).bind fun t430 => (some t430)) else (some false))) = some r := by rw [if_pos rfl] at H; exact H
          clear H
          have H := H1
          clear H1
          replace H := Option.bind_eq_some_iff.mp H
          obtain ⟨t429, A290, H⟩ := H
          replace H : (if t429 = true then ((laws_leVals.f kj5 t415 t421).bind fun t430 => (some t430)) else (some false)) = some r := H
          have A29 := Aside0.mk A290
          clear A290
          by_cases c30 : t429 = true
          · subst c30
            have H1 : ((laws_leVals.f kj5 t415 t421).bind fun t430 => (some t430)) = some r := by rw [if_pos rfl] at H; exact H
            clear H
            have H := H1
            clear H1
            replace H := Option.bind_eq_some_iff.mp H
            obtain ⟨t430, A310, H⟩ := H
            replace H : (some t430) = some r := H
            have A31 := Aside0.mk A310
            clear A310
            obtain rfl := Option.some.inj H
            simp only [Option.some.injEq, Prod.mk.injEq] at H
            obtain ⟨rfl⟩ := H
            obtain ⟨Ao32, co32, eo32⟩ := Kd.N_slice HO_5.out
            subst eo32
            obtain ⟨Ao33, co33, eo33⟩ := Kd.N_slice HO_7.out
            subst eo33
            go_wp2_with (first | ((with_reducible refine gate_callee (f := 30) rfl ?_); refine goesL_ (some 50) rfl rfl Try.func30 (by kernel_rfl) rfl #[.slice Ao32 t414.length co32, .slice Ao33 t420.length co33] rfl (by (try simp only [List.map_toArray, List.map_cons, List.map_nil]); first | done | rfl | (simp only [List.length_drop, List.length_take]; rfl)) ?_; (with_reducible refine (laws_leObjs.calls kj5 _ _ t414 _ _ t420 true _ ?side1 ?side2 ?side3 ?side4 A29.out).mono ?_); (case side1 => repeat (first | exact (Kd.N_reads' HO_5.out).2.2 | (with_reducible refine Kd.C_alloc ?_ _) | (with_reducible refine Kd.C_drewN ?_ _) | (with_reducible refine Kd.C_drew ?_))); (case side2 => exact (Kd.N_reads' HO_5.out).2.1); (case side3 => repeat (first | exact (Kd.N_reads' HO_7.out).2.2 | (with_reducible refine Kd.C_alloc ?_ _) | (with_reducible refine Kd.C_drewN ?_ _) | (with_reducible refine Kd.C_drew ?_))); (case side4 => exact (Kd.N_reads' HO_7.out).2.1); rintro e w' ⟨rfl, ⟨nd, rfl⟩⟩; refine ⟨_, rfl, ?_⟩; obtain ⟨Ao34, co34, eo34⟩ := Kd.R_slice HO_6.out; subst eo34; obtain ⟨Ao35, co35, eo35⟩ := Kd.R_slice HO_8.out; subst eo35) | (go_at_call 31; (with_reducible refine (laws_leVals.calls kj5 _ _ t415 _ _ t421 t430 _ ?side1 ?side2 ?side3 ?side4 A31.out).mono ?_); (case side1 => repeat (first | exact (Kd.R_reads' HO_6.out).2.2 | (with_reducible refine Kd.C_alloc ?_ _) | (with_reducible refine Kd.C_drewN ?_ _) | (with_reducible refine Kd.C_drew ?_))); (case side2 => exact (Kd.R_reads' HO_6.out).2.1); (case side3 => repeat (first | exact (Kd.R_reads' HO_8.out).2.2 | (with_reducible refine Kd.C_alloc ?_ _) | (with_reducible refine Kd.C_drewN ?_ _) | (with_reducible refine Kd.C_drew ?_))); (case side4 => exact (Kd.R_reads' HO_8.out).2.1); rintro e w' ⟨rfl, ⟨nd, rfl⟩⟩))
            go_ret
            exact ⟨by first | rfl | (simp [errW_none, errW_some] <;> rfl) | (simp [*, errW_none, errW_some] <;> rfl), by repeat (first | (with_reducible first | exact HB.out | apply below_alloc | apply pw_below_drewN | apply below_drew1) | exact HB.out)⟩
          · replace c30 := Bool.eq_false_iff.mpr c30
            subst c30
            have H1 : (some false) = some r := by rw [if_neg (show ¬ (false = true) by decide)] at H; exact H
            clear H
            have H := H1
            clear H1
            obtain rfl := Option.some.inj H
            exact absurd hr_ (by decide)
        · replace c28 := Bool.eq_false_iff.mpr c28
          subst c28
          have H1 : ((some (([(⟨false, 5⟩ : S46), (⟨true, wrap64 ((t408.length : Int) + 1)⟩ : S46), (⟨true, 0⟩ : S46)] : List (S46)) : List (S46))).bind fun y431 => (if y431.length + t409.length < 8796093022208 then ((some (([] : List (S48)) : List (S48))).bind fun y437 => (if y437.length + t408.length < 4398046511104 then ((some (y437 ++ t408 : List (S48))).bind fun y440 => (if y440.length < 4398046511104 then ((impl_HeapGraph.f kj5 (y440 ++ [(⟨1, (y431 ++ t409)⟩ : S48)]) t409).bind fun bt446 => ((laws_leObjs.f kj5 bt446.1 t414).bind fun t452 => (if t452 = true then ((laws_leVals.f kj5 bt446.2 t415).bind fun t453 => (some t453)) else (some false)))) else (none))) else (none))) else (none))) = some r := by rw [if_neg (show ¬ (false = true) by decide)] at H; exact H
          clear H
          have H := H1
          clear H1
          obtain ⟨y431, hy431⟩ : ∃ y_ : List (S46), y_ = (([(⟨false, 5⟩ : S46), (⟨true, wrap64 ((t408.length : Int) + 1)⟩ : S46), (⟨true, 0⟩ : S46)] : List (S46))) := ⟨_, rfl⟩
          replace H : (if y431.length + t409.length < 8796093022208 then ((some (([] : List (S48)) : List (S48))).bind fun y437 => (if y437.length + t408.length < 4398046511104 then ((some (y437 ++ t408 : List (S48))).bind fun y440 => (if y440.length < 4398046511104 then ((impl_HeapGraph.f kj5 (y440 ++ [(⟨1, (y431 ++ t409)⟩ : S48)]) t409).bind fun bt446 => ((laws_leObjs.f kj5 bt446.1 t414).bind fun t452 => (if t452 = true then ((laws_leVals.f kj5 bt446.2 t415).bind fun t453 => (some t453)) else (some false)))) else (none))) else (none))) else (none)) = some r := by first | (rw [hy431]; with_reducible exact H) | (have H2_ := (Option.bind_some _ _).symm.trans H; rw [hy431]; with_reducible exact H2_) | (have H2_ := (Option.bind_some _ _).symm.trans H; with_reducible exact H2_) | with_reducible exact H | (rw [hy431]; exact H) | exact H
          have Ny431 := Aside0.mk hy431
          clear hy431
          by_cases c36 : y431.length + t409.length < 8796093022208
          · rw [if_pos c36] at H
            have LMc36 := Aside0.mk c36
            clear c36
            obtain ⟨y434, hy434⟩ : ∃ y_ : List (S46), y_ = (y431 ++ t409) := ⟨_, rfl⟩
            replace H : ((some (([] : List (S48)) : List (S48))).bind fun y437 => (if y437.length + t408.length < 4398046511104 then ((some (y437 ++ t408 : List (S48))).bind fun y440 => (if y440.length < 4398046511104 then ((impl_HeapGraph.f kj5 (y440 ++ [(⟨1, y434⟩ : S48)]) t409).bind fun bt446 => ((laws_leObjs.f kj5 bt446.1 t414).bind fun t452 => (if t452 = true then ((laws_leVals.f kj5 bt446.2 t415).bind fun t453 => (some t453)) else (some false)))) else (none))) else (none))) = some r := by first | (rw [hy434]; with_reducible exact H) | (have H2_ := (Option.bind_some _ _).symm.trans H; rw [hy434]; with_reducible exact H2_) | (have H2_ := (Option.bind_some _ _).symm.trans H; with_reducible exact H2_) | with_reducible exact H | (rw [hy434]; exact H) | exact H
            have Ny434 := Aside0.mk hy434
            clear hy434
            obtain ⟨y437, hy437⟩ : ∃ y_ : List (S48), y_ = (([] : List (S48))) := ⟨_, rfl⟩
            replace H : (if y437.length + t408.length < 4398046511104 then ((some (y437 ++ t408 : List (S48))).bind fun y440 => (if y440.length < 4398046511104 then ((impl_HeapGraph.f kj5 (y440 ++ [(⟨1, y434⟩ : S48)]) t409).bind fun bt446 => ((laws_leObjs.f kj5 bt446.1 t414).bind fun t452 => (if t452 = true then ((laws_leVals.f kj5 bt446.2 t415).bind fun t453 => (some t453)) else (some false)))) else (none))) else (none)) = some r := by first | (rw [hy437]; with_reducible exact H) | (have H2_ := (Option.bind_some _ _).symm.trans H; rw [hy437]; with_reducible exact H2_) | (have H2_ := (Option.bind_some _ _).symm.trans H; with_reducible exact H2_) | with_reducible exact H | (rw [hy437]; exact H) | exact H
            have Ny437 := Aside0.mk hy437
            clear hy437
            by_cases c37 : y437.length + t408.length < 4398046511104
            · rw [if_pos c37] at H
              have LMc37 := Aside0.mk c37
              clear c37
              obtain ⟨y440, hy440⟩ : ∃ y_ : List (S48), y_ = (y437 ++ t408) := ⟨_, rfl⟩
              replace H : (if y440.length < 4398046511104 then ((impl_HeapGraph.f kj5 (y440 ++ [(⟨1, y434⟩ : S48)]) t409).bind fun bt446 => ((laws_leObjs.f kj5 bt446.1 t414).bind fun t452 => (if t452 = true then ((laws_leVals.f kj5 bt446.2 t415).bind fun t453 => (some t453)) else (some false)))) else (none)) = some r := by first | (rw [hy440]; with_reducible exact H) | (have H2_ := (Option.bind_some _ _).symm.trans H; rw [hy440]; with_reducible exact H2_) | (have H2_ := (Option.bind_some _ _).symm.trans H; with_reducible exact H2_) | with_reducible exact H | (rw [hy440]; exact H) | exact H
              have Ny440 := Aside0.mk hy440
              clear hy440
              by_cases c38 : y440.length < 4398046511104
              · rw [if_pos c38] at H
                have LMc38 := Aside0.mk c38
                clear c38
                obtain ⟨y443, hy443⟩ : ∃ y_ : List (S48), y_ = (y440 ++ [(⟨1, y434⟩ : S48)]) := ⟨_, rfl⟩
                replace H : ((impl_HeapGraph.f kj5 y443 t409).bind fun bt446 => ((laws_leObjs.f kj5 bt446.1 t414).bind fun t452 => (if t452 = true then ((laws_leVals.f kj5 bt446.2 t415).bind fun t453 => (some t453)) else (some false)))) = some r := by first | (rw [hy443]; with_reducible exact H) | (have H2_ := (Option.bind_some _ _).symm.trans H; rw [hy443]; with_reducible exact H2_) | (have H2_ := (Option.bind_some _ _).symm.trans H; with_reducible exact H2_) | with_reducible exact H | (rw [hy443]; exact H) | exact H
                have Ny443 := Aside0.mk hy443
                clear hy443
                replace H := Option.bind_eq_some_iff.mp H
                obtain ⟨⟨t446, t447⟩, A390, H⟩ := H
                replace H : ((laws_leObjs.f kj5 t446 t414).bind fun t452 => (if t452 = true then ((laws_leVals.f kj5 t447 t415).bind fun t453 => (some t453)) else (some false))) = some r := H
                have A39 := Aside0.mk A390
                clear A390
                replace H := Option.bind_eq_some_iff.mp H
                obtain ⟨t452, A400, H⟩ := H
                replace H : (if t452 = true then ((laws_leVals.f kj5 t447 t415).bind fun t453 => (some t453)) else (some false)) = some r := H
                have A40 := Aside0.mk A400
                clear A400
                by_cases c41 : t452 = true
                · subst c41
                  have H1 : ((laws_leVals.f kj5 t447 t415).bind fun t453 => (some t453)) = some r := by rw [if_pos rfl] at H; exact H
                  clear H
                  have H := H1
                  clear H1
                  replace H := Option.bind_eq_some_iff.mp H
                  obtain ⟨t453, A420, H⟩ := H
                  replace H : (some t453) = some r := H
                  have A42 := Aside0.mk A420
                  clear A420
                  obtain rfl := Option.some.inj H
                  simp only [Option.some.injEq, Prod.mk.injEq] at H
                  obtain ⟨rfl⟩ := H
                  go_wp2_with (first | ((with_reducible refine gate_dst (N := 62) rfl ?_); refine Kd.R_lit k46 _ 46 ?hg (N := 62) ?hd (xs := ([(⟨false, 5⟩ : S46), (⟨true, wrap64 ((t408.length : Int) + 1)⟩ : S46), (⟨true, 0⟩ : S46)] : List (S46))) (inner := [.bool false, .int .i64 5, .bool true, .int .i64 (wrap64 ((t408.length : Int) + 1)), .bool true, .int .i64 0]) (ok := fun _ => True) (okp := fun _ => True) ?hr ?hp (fun _ hk => hk) trivial (Below.refl _ _) (Nat.le_refl _) (by simp) ?_; (case hd => rfl); (case hg => rfl); (case hr => first | (go_simp; done) | (go_simp; rfl)); (case hp => exact (Reps.c2 (show Kd.M k46 _ _ _ (⟨false, 5⟩ : S46) [.bool false, .int .i64 5] from (k46_mkM _ _ _ (⟨false, 5⟩ : S46) )) (Reps.c2 (show Kd.M k46 _ _ _ (⟨true, wrap64 ((t408.length : Int) + 1)⟩ : S46) [.bool true, .int .i64 (wrap64 ((t408.length : Int) + 1))] from (k46_mkM _ _ _ (⟨true, wrap64 ((t408.length : Int) + 1)⟩ : S46) )) (Reps.c2 (show Kd.M k46 _ _ _ (⟨true, 0⟩ : S46) [.bool true, .int .i64 0] from (k46_mkM _ _ _ (⟨true, 0⟩ : S46) )) (Reps.none _ _))))); intro v432 w43 ho44 hb hg_ hnew_; clear hg_ hnew_; (first | rw [← Ny431.out] at ho44 | (simp only [Int.reduceToNat] at ho44; rw [← Ny431.out] at ho44)); have n0_ := Aside0.mk (Kd.N_elder' (by (with_reducible repeat (first | apply Kd.N_alloc | apply Kd.N_drewN | apply Kd.N_drew)); exact HO_3.out) (Kd.R_base ho44) hb); have n1_ := Aside0.mk (Kd.R_elder' (by (with_reducible repeat (first | apply Kd.R_alloc | apply Kd.R_drewN | apply Kd.R_drew)); exact HO_4.out) (Kd.R_base ho44) hb); have n2_ := Aside0.mk (Kd.N_elder' (by (with_reducible repeat (first | apply Kd.N_alloc | apply Kd.N_drewN | apply Kd.N_drew)); exact HO_5.out) (Kd.R_base ho44) hb); have n3_ := Aside0.mk (Kd.R_elder' (by (with_reducible repeat (first | apply Kd.R_alloc | apply Kd.R_drewN | apply Kd.R_drew)); exact HO_6.out) (Kd.R_base ho44) hb); have n4_ := Aside0.mk (Kd.N_elder' (by (with_reducible repeat (first | apply Kd.N_alloc | apply Kd.N_drewN | apply Kd.N_drew)); exact HO_7.out) (Kd.R_base ho44) hb); have n5_ := Aside0.mk (Kd.R_elder' (by (with_reducible repeat (first | apply Kd.R_alloc | apply Kd.R_drewN | apply Kd.R_drew)); exact HO_8.out) (Kd.R_base ho44) hb); have n6_ := Aside0.mk (Kd.R_lower (Kd.R_new' (Kd.R_new' (Kd.R_new' ho44 (Kd.R_lt (by (with_reducible repeat (first | apply Kd.R_alloc | apply Kd.R_drewN | apply Kd.R_drew)); exact HO_4.out))) (Kd.R_lt (by (with_reducible repeat (first | apply Kd.R_alloc | apply Kd.R_drewN | apply Kd.R_drew)); exact HO_6.out))) (Kd.R_lt (by (with_reducible repeat (first | apply Kd.R_alloc | apply Kd.R_drewN | apply Kd.R_drew)); exact HO_8.out))) (below_size (by repeat (first | (with_reducible first | exact HB.out | apply below_alloc | apply pw_below_drewN | apply below_drew1) | exact HB.out)))); have n7_ := Aside0.mk (below_step (by repeat (first | (with_reducible first | exact HB.out | apply below_alloc | apply pw_below_drewN | apply below_drew1) | exact HB.out)) hb); clear HO_3; clear HO_4; clear HO_5; clear HO_6; clear HO_7; clear HO_8; clear HB; have HO_3 := n0_; have HO_4 := n1_; have HO_5 := n2_; have HO_6 := n3_; have HO_7 := n4_; have HO_8 := n5_; have HO433 := n6_; have HB := n7_; clear n0_ n1_ n2_ n3_ n4_ n5_ n6_ n7_; clear hb ho44) | ((with_reducible refine gate_builtin (b := .append) (xs := #[.tmp 62, .tmp 63]) rfl ?_); at_builtin; refine Kd.R_append_rows k46 (w0 := w) w.heap.size rfl (.tmp 62) (.tmp 63) 35 46 (.agg #[(.bool false), (.int .i64 0)]) 16 rfl Try.underlying35 info46 rfl (by decide) (by omega) v432 y431 t409 _ _ _ (fun k_ => some k_ ≠ (.slice Ao9 t409.length co9 : Value).ownBlock ∧ some k_ ≠ (v418 : Value).ownBlock ∧ some k_ ≠ (v424 : Value).ownBlock) (fun _ => False) rfl rfl ?aO ?aR (fun _ _ h => h) (fun _ h => h.elim) ?aF ?aB ?aS ?aL ?_; (case aR => repeat (first | exact (Kd.R_reads' HO_4.out).2.2 | (with_reducible refine Kd.C_alloc ?_ _) | (with_reducible refine Kd.C_drewN ?_ _) | (with_reducible refine Kd.C_drew ?_))); (case aB => exact (by repeat (first | (with_reducible first | exact HB.out | apply below_alloc | apply pw_below_drewN | apply below_drew1) | exact HB.out))); (case aF => exact (fun k_ hk => ⟨Kd.fresh' (Kd.R_lt (by (with_reducible repeat (first | apply Kd.R_alloc | apply Kd.R_drewN | apply Kd.R_drew)); exact HO_4.out)) k_ hk, Kd.fresh' (Kd.R_lt (by (with_reducible repeat (first | apply Kd.R_alloc | apply Kd.R_drewN | apply Kd.R_drew)); exact HO_6.out)) k_ hk, Kd.fresh' (Kd.R_lt (by (with_reducible repeat (first | apply Kd.R_alloc | apply Kd.R_drewN | apply Kd.R_drew)); exact HO_8.out)) k_ hk⟩)); (case aO => exact (by (with_reducible repeat (first | apply Kd.R_alloc | apply Kd.R_drewN | apply Kd.R_drew)); exact Kd.R_mono HO433.out (fun _ hk => ⟨hk.1.1.2, ⟨hk.1.2, hk.2⟩⟩))); (case aS => exact (below_size (by repeat (first | (with_reducible first | exact HB.out | apply below_alloc | apply pw_below_drewN | apply below_drew1) | exact HB.out)))); (case aL => have := LMc36.out; omega); intro v435 w45 ho hb hg hat; rw [← Ny434.out] at ho; have n0_ := Aside0.mk (Kd.N_afterv (ok := (fun k_ => some k_ ≠ (.slice Ao9 t409.length co9 : Value).ownBlock ∧ some k_ ≠ (v416 : Value).ownBlock ∧ some k_ ≠ (v418 : Value).ownBlock ∧ some k_ ≠ (v422 : Value).ownBlock ∧ some k_ ≠ (v424 : Value).ownBlock)) (by (with_reducible repeat (first | apply Kd.N_alloc | apply Kd.N_drewN | apply Kd.N_drew)); exact HO_3.out) hg hat); have n1_ := Aside0.mk (Kd.R_after (ok := (fun k_ => some k_ ≠ (v418 : Value).ownBlock ∧ some k_ ≠ (v424 : Value).ownBlock)) (by (with_reducible repeat (first | apply Kd.R_alloc | apply Kd.R_drewN | apply Kd.R_drew)); exact HO_4.out) hg hat); have n2_ := Aside0.mk (Kd.N_afterv (ok := (fun k_ => some k_ ≠ (.slice Ao8 t408.length co8 : Value).ownBlock ∧ some k_ ≠ (.slice Ao9 t409.length co9 : Value).ownBlock ∧ some k_ ≠ (v418 : Value).ownBlock ∧ some k_ ≠ (v422 : Value).ownBlock ∧ some k_ ≠ (v424 : Value).ownBlock)) (by (with_reducible repeat (first | apply Kd.N_alloc | apply Kd.N_drewN | apply Kd.N_drew)); exact HO_5.out) hg hat); have n3_ := Aside0.mk (Kd.R_after (ok := (fun k_ => some k_ ≠ (.slice Ao9 t409.length co9 : Value).ownBlock ∧ some k_ ≠ (v424 : Value).ownBlock)) (by (with_reducible repeat (first | apply Kd.R_alloc | apply Kd.R_drewN | apply Kd.R_drew)); exact HO_6.out) hg hat); have n4_ := Aside0.mk (Kd.N_afterv (ok := (fun k_ => some k_ ≠ (.slice Ao8 t408.length co8 : Value).ownBlock ∧ some k_ ≠ (.slice Ao9 t409.length co9 : Value).ownBlock ∧ some k_ ≠ (v416 : Value).ownBlock ∧ some k_ ≠ (v418 : Value).ownBlock ∧ some k_ ≠ (v424 : Value).ownBlock)) (by (with_reducible repeat (first | apply Kd.N_alloc | apply Kd.N_drewN | apply Kd.N_drew)); exact HO_7.out) hg hat); have n5_ := Aside0.mk (Kd.R_after (ok := (fun k_ => some k_ ≠ (.slice Ao9 t409.length co9 : Value).ownBlock ∧ some k_ ≠ (v418 : Value).ownBlock)) (by (with_reducible repeat (first | apply Kd.R_alloc | apply Kd.R_drewN | apply Kd.R_drew)); exact HO_8.out) hg hat); have n6_ := Aside0.mk (hb); have n7_ := Aside0.mk (ho); clear HO_3; clear HO_4; clear HO_5; clear HO_6; clear HO_7; clear HO_8; clear HB; clear HO433; have HO_3 := n0_; have HO_4 := n1_; have HO_5 := n2_; have HO_6 := n3_; have HO_7 := n4_; have HO_8 := n5_; have HB := n6_; have HO436 := n7_; clear n0_ n1_ n2_ n3_ n4_ n5_ n6_ n7_; clear ho hb hg hat) | ((with_reducible refine gate_dst (N := 66) rfl ?_); refine Kd.N_lit k48 _ 48 ?hg (N' := 66) ?hd (xs := ([] : List (S48))) (inner := []) (ok := (fun k_ => some k_ ≠ (.slice Ao8 t408.length co8 : Value).ownBlock ∧ some k_ ≠ (.slice Ao9 t409.length co9 : Value).ownBlock ∧ some k_ ≠ (v416 : Value).ownBlock ∧ some k_ ≠ (v418 : Value).ownBlock ∧ some k_ ≠ (v422 : Value).ownBlock ∧ some k_ ≠ (v424 : Value).ownBlock ∧ some k_ ≠ (v435 : Value).ownBlock)) (okp := (fun k_ => some k_ ≠ (.slice Ao8 t408.length co8 : Value).ownBlock ∧ some k_ ≠ (.slice Ao9 t409.length co9 : Value).ownBlock ∧ some k_ ≠ (v416 : Value).ownBlock ∧ some k_ ≠ (v418 : Value).ownBlock ∧ some k_ ≠ (v422 : Value).ownBlock ∧ some k_ ≠ (v424 : Value).ownBlock ∧ some k_ ≠ (v435 : Value).ownBlock)) ?hr ?hp (fun _ hk => hk) ((show ∀ k_, w45.heap.size ≤ k_ → (fun k_ => some k_ ≠ (.slice Ao8 t408.length co8 : Value).ownBlock ∧ some k_ ≠ (.slice Ao9 t409.length co9 : Value).ownBlock ∧ some k_ ≠ (v416 : Value).ownBlock ∧ some k_ ≠ (v418 : Value).ownBlock ∧ some k_ ≠ (v422 : Value).ownBlock ∧ some k_ ≠ (v424 : Value).ownBlock ∧ some k_ ≠ (v435 : Value).ownBlock) k_ from fun k_ hk => ⟨Kd.fresh' (Kd.N_lt (by (with_reducible repeat (first | apply Kd.N_alloc | apply Kd.N_drewN | apply Kd.N_drew)); exact HO_3.out)) k_ hk, Kd.fresh' (Kd.R_lt (by (with_reducible repeat (first | apply Kd.R_alloc | apply Kd.R_drewN | apply Kd.R_drew)); exact HO_4.out)) k_ hk, Kd.fresh' (Kd.N_lt (by (with_reducible repeat (first | apply Kd.N_alloc | apply Kd.N_drewN | apply Kd.N_drew)); exact HO_5.out)) k_ hk, Kd.fresh' (Kd.R_lt (by (with_reducible repeat (first | apply Kd.R_alloc | apply Kd.R_drewN | apply Kd.R_drew)); exact HO_6.out)) k_ hk, Kd.fresh' (Kd.N_lt (by (with_reducible repeat (first | apply Kd.N_alloc | apply Kd.N_drewN | apply Kd.N_drew)); exact HO_7.out)) k_ hk, Kd.fresh' (Kd.R_lt (by (with_reducible repeat (first | apply Kd.R_alloc | apply Kd.R_drewN | apply Kd.R_drew)); exact HO_8.out)) k_ hk, Kd.fresh' (Kd.R_lt (by (with_reducible repeat (first | apply Kd.R_alloc | apply Kd.R_drewN | apply Kd.R_drew)); exact HO436.out)) k_ hk⟩) _ (Nat.le_refl _)) (Below.refl _ _) (Nat.le_refl _) (by simp) ?_; (case hd => rfl); (case hg => rfl); (case hr => first | (go_simp; done) | (go_simp; rfl)); (case hp => exact (Reps.none _ _)); intro v438 w46 ho47 hb hg_ hnew_; clear hg_ hnew_; (first | rw [← Ny437.out] at ho47 | (simp only [Int.reduceToNat] at ho47; rw [← Ny437.out] at ho47)); have n0_ := Aside0.mk (Kd.N_elder' (by (with_reducible repeat (first | apply Kd.N_alloc | apply Kd.N_drewN | apply Kd.N_drew)); exact HO_3.out) (Kd.N_base ho47) hb); have n1_ := Aside0.mk (Kd.R_below (by (with_reducible repeat (first | apply Kd.R_alloc | apply Kd.R_drewN | apply Kd.R_drew)); exact HO_4.out) hb); have n2_ := Aside0.mk (Kd.N_elder' (by (with_reducible repeat (first | apply Kd.N_alloc | apply Kd.N_drewN | apply Kd.N_drew)); exact HO_5.out) (Kd.N_base ho47) hb); have n3_ := Aside0.mk (Kd.R_below (by (with_reducible repeat (first | apply Kd.R_alloc | apply Kd.R_drewN | apply Kd.R_drew)); exact HO_6.out) hb); have n4_ := Aside0.mk (Kd.N_elder' (by (with_reducible repeat (first | apply Kd.N_alloc | apply Kd.N_drewN | apply Kd.N_drew)); exact HO_7.out) (Kd.N_base ho47) hb); have n5_ := Aside0.mk (Kd.R_below (by (with_reducible repeat (first | apply Kd.R_alloc | apply Kd.R_drewN | apply Kd.R_drew)); exact HO_8.out) hb); have n6_ := Aside0.mk (Kd.R_below (by (with_reducible repeat (first | apply Kd.R_alloc | apply Kd.R_drewN | apply Kd.R_drew)); exact HO436.out) hb); have n7_ := Aside0.mk (Kd.N_lower ho47 (below_size (by repeat (first | (with_reducible first | exact HB.out | apply below_alloc | apply pw_below_drewN | apply below_drew1) | exact HB.out)))); have n8_ := Aside0.mk (below_step (by repeat (first | (with_reducible first | exact HB.out | apply below_alloc | apply pw_below_drewN | apply below_drew1) | exact HB.out)) hb); clear HO_3; clear HO_4; clear HO_5; clear HO_6; clear HO_7; clear HO_8; clear HO436; clear HB; have HO_3 := n0_; have HO_4 := n1_; have HO_5 := n2_; have HO_6 := n3_; have HO_7 := n4_; have HO_8 := n5_; have HO436 := n6_; have HO439 := n7_; have HB := n8_; clear n0_ n1_ n2_ n3_ n4_ n5_ n6_ n7_ n8_; clear hb ho47) | ((with_reducible refine gate_builtin (b := .append) (xs := #[.tmp 66, .tmp 67]) rfl ?_); at_builtin; refine Kd.N_append_rows k48 (w0 := w) w.heap.size rfl (.tmp 66) (.tmp 67) 33 48 (.agg #[(.int .i64 0), (.slice none 0 0)]) 32 rfl Try.underlying33 info48 rfl (by decide) (by omega) v438 y437 t408 _ _ _ (fun k_ => some k_ ≠ (.slice Ao9 t409.length co9 : Value).ownBlock ∧ some k_ ≠ (v416 : Value).ownBlock ∧ some k_ ≠ (v418 : Value).ownBlock ∧ some k_ ≠ (v422 : Value).ownBlock ∧ some k_ ≠ (v424 : Value).ownBlock ∧ some k_ ≠ (v435 : Value).ownBlock) (fun k_ => ((fun k_ => some k_ ≠ (.slice Ao9 t409.length co9 : Value).ownBlock ∧ some k_ ≠ (v416 : Value).ownBlock ∧ some k_ ≠ (v418 : Value).ownBlock ∧ some k_ ≠ (v422 : Value).ownBlock ∧ some k_ ≠ (v424 : Value).ownBlock ∧ some k_ ≠ (v435 : Value).ownBlock)) k_ ∧ some k_ ≠ (v438 : Value).ownBlock) rfl rfl ?aO ?aR (fun _ hk => hk) ?aF ?aB ?aS ?aL ?_; (case aR => exact (by skip; exact Kd.N_F (Kd.N_mono (ok' := (fun k_ => ((fun k_ => some k_ ≠ (.slice Ao9 t409.length co9 : Value).ownBlock ∧ some k_ ≠ (v416 : Value).ownBlock ∧ some k_ ≠ (v418 : Value).ownBlock ∧ some k_ ≠ (v422 : Value).ownBlock ∧ some k_ ≠ (v424 : Value).ownBlock ∧ some k_ ≠ (v435 : Value).ownBlock)) k_ ∧ some k_ ≠ (v438 : Value).ownBlock)) (HO_3.out) (fun k_ hk => ⟨⟨hk.1.1.1, ⟨hk.1.1.2.1, ⟨hk.1.1.2.2.1, ⟨hk.1.1.2.2.2.1, ⟨hk.1.1.2.2.2.2, hk.1.2⟩⟩⟩⟩⟩, hk.2⟩)))); (case aB => exact (by repeat (first | (with_reducible first | exact HB.out | apply below_alloc | apply pw_below_drewN | apply below_drew1) | exact HB.out))); (case aF => exact (fun k_ hk => ⟨Kd.fresh' (Kd.R_lt (by (with_reducible repeat (first | apply Kd.R_alloc | apply Kd.R_drewN | apply Kd.R_drew)); exact HO_4.out)) k_ hk, Kd.fresh' (Kd.N_lt (by (with_reducible repeat (first | apply Kd.N_alloc | apply Kd.N_drewN | apply Kd.N_drew)); exact HO_5.out)) k_ hk, Kd.fresh' (Kd.R_lt (by (with_reducible repeat (first | apply Kd.R_alloc | apply Kd.R_drewN | apply Kd.R_drew)); exact HO_6.out)) k_ hk, Kd.fresh' (Kd.N_lt (by (with_reducible repeat (first | apply Kd.N_alloc | apply Kd.N_drewN | apply Kd.N_drew)); exact HO_7.out)) k_ hk, Kd.fresh' (Kd.R_lt (by (with_reducible repeat (first | apply Kd.R_alloc | apply Kd.R_drewN | apply Kd.R_drew)); exact HO_8.out)) k_ hk, Kd.fresh' (Kd.R_lt (by (with_reducible repeat (first | apply Kd.R_alloc | apply Kd.R_drewN | apply Kd.R_drew)); exact HO436.out)) k_ hk⟩)); (case aO => exact (by (with_reducible repeat (first | apply Kd.N_alloc | apply Kd.N_drewN | apply Kd.N_drew)); exact Kd.N_mono HO439.out (fun _ hk => ⟨hk.2.1, ⟨hk.2.2.1, ⟨hk.2.2.2.1, ⟨hk.2.2.2.2.1, ⟨hk.2.2.2.2.2.1, hk.2.2.2.2.2.2⟩⟩⟩⟩⟩))); (case aS => exact (below_size (by repeat (first | (with_reducible first | exact HB.out | apply below_alloc | apply pw_below_drewN | apply below_drew1) | exact HB.out)))); (case aL => have := LMc37.out; omega); intro v441 w48 ho hb hg hat; rw [← Ny440.out] at ho; have n0_ := Aside0.mk (Kd.N_afterv (ok := (fun k_ => some k_ ≠ (.slice Ao9 t409.length co9 : Value).ownBlock ∧ some k_ ≠ (v416 : Value).ownBlock ∧ some k_ ≠ (v418 : Value).ownBlock ∧ some k_ ≠ (v422 : Value).ownBlock ∧ some k_ ≠ (v424 : Value).ownBlock ∧ some k_ ≠ (v435 : Value).ownBlock)) (by (with_reducible repeat (first | apply Kd.N_alloc | apply Kd.N_drewN | apply Kd.N_drew)); exact Kd.N_mono HO_3.out (fun _ hk => ⟨⟨hk.1.1.1, ⟨hk.1.1.2.1, ⟨hk.1.1.2.2.1, ⟨hk.1.1.2.2.2.1, ⟨hk.1.1.2.2.2.2, hk.1.2⟩⟩⟩⟩⟩, hk.2⟩)) hg hat); have n1_ := Aside0.mk (Kd.R_over' (by (with_reducible repeat (first | apply Kd.R_alloc | apply Kd.R_drewN | apply Kd.R_drew)); exact HO_4.out) (Kd.N_typed (by (with_reducible repeat (first | apply Kd.N_alloc | apply Kd.N_drewN | apply Kd.N_drew)); exact HO439.out)) (by decide) hg); have n2_ := Aside0.mk (Kd.N_afterv (ok := (fun k_ => some k_ ≠ (.slice Ao8 t408.length co8 : Value).ownBlock ∧ some k_ ≠ (.slice Ao9 t409.length co9 : Value).ownBlock ∧ some k_ ≠ (v418 : Value).ownBlock ∧ some k_ ≠ (v422 : Value).ownBlock ∧ some k_ ≠ (v424 : Value).ownBlock ∧ some k_ ≠ (v435 : Value).ownBlock)) (by (with_reducible repeat (first | apply Kd.N_alloc | apply Kd.N_drewN | apply Kd.N_drew)); exact Kd.N_mono HO_5.out (fun _ hk => ⟨⟨hk.1.1.1, ⟨hk.1.1.2.1, ⟨hk.1.1.2.2.1, ⟨hk.1.1.2.2.2.1, ⟨hk.1.1.2.2.2.2, hk.1.2⟩⟩⟩⟩⟩, hk.2⟩)) hg hat); have n3_ := Aside0.mk (Kd.R_over' (by (with_reducible repeat (first | apply Kd.R_alloc | apply Kd.R_drewN | apply Kd.R_drew)); exact HO_6.out) (Kd.N_typed (by (with_reducible repeat (first | apply Kd.N_alloc | apply Kd.N_drewN | apply Kd.N_drew)); exact HO439.out)) (by decide) hg); have n4_ := Aside0.mk (Kd.N_afterv (ok := (fun k_ => some k_ ≠ (.slice Ao8 t408.length co8 : Value).ownBlock ∧ some k_ ≠ (.slice Ao9 t409.length co9 : Value).ownBlock ∧ some k_ ≠ (v416 : Value).ownBlock ∧ some k_ ≠ (v418 : Value).ownBlock ∧ some k_ ≠ (v424 : Value).ownBlock ∧ some k_ ≠ (v435 : Value).ownBlock)) (by (with_reducible repeat (first | apply Kd.N_alloc | apply Kd.N_drewN | apply Kd.N_drew)); exact Kd.N_mono HO_7.out (fun _ hk => ⟨⟨hk.1.1.1, ⟨hk.1.1.2.1, ⟨hk.1.1.2.2.1, ⟨hk.1.1.2.2.2.1, ⟨hk.1.1.2.2.2.2, hk.1.2⟩⟩⟩⟩⟩, hk.2⟩)) hg hat); have n5_ := Aside0.mk (Kd.R_over' (by (with_reducible repeat (first | apply Kd.R_alloc | apply Kd.R_drewN | apply Kd.R_drew)); exact HO_8.out) (Kd.N_typed (by (with_reducible repeat (first | apply Kd.N_alloc | apply Kd.N_drewN | apply Kd.N_drew)); exact HO439.out)) (by decide) hg); have n6_ := Aside0.mk (Kd.R_over' (by (with_reducible repeat (first | apply Kd.R_alloc | apply Kd.R_drewN | apply Kd.R_drew)); exact HO436.out) (Kd.N_typed (by (with_reducible repeat (first | apply Kd.N_alloc | apply Kd.N_drewN | apply Kd.N_drew)); exact HO439.out)) (by decide) hg); have n7_ := Aside0.mk (hb); have n8_ := Aside0.mk (ho); clear HO_3; clear HO_4; clear HO_5; clear HO_6; clear HO_7; clear HO_8; clear HO436; clear HB; clear HO439; have HO_3 := n0_; have HO_4 := n1_; have HO_5 := n2_; have HO_6 := n3_; have HO_7 := n4_; have HO_8 := n5_; have HO436 := n6_; have HB := n7_; have HO442 := n8_; clear n0_ n1_ n2_ n3_ n4_ n5_ n6_ n7_ n8_; clear ho hb hg hat; obtain ⟨Ao49, co49, eo49⟩ := Kd.R_slice HO436.out; subst eo49) | ((with_reducible refine gate_builtin (b := .append) (xs := #[.tmp 68, .tmp 71]) rfl ?_); at_builtin; refine Kd.N_append k48 (w0 := w) w.heap.size rfl (.tmp 68) (.tmp 71) 33 48 (.agg #[(.int .i64 0), (.slice none 0 0)]) 32 rfl Try.underlying33 info48 rfl (by decide) (by omega) v441 y440 (⟨1, y434⟩ : S48) [.int .i64 1, .slice Ao49 y434.length co49] (fun k_ => some k_ ≠ (.slice Ao9 t409.length co9 : Value).ownBlock ∧ some k_ ≠ (v416 : Value).ownBlock ∧ some k_ ≠ (v418 : Value).ownBlock ∧ some k_ ≠ (v422 : Value).ownBlock ∧ some k_ ≠ (v424 : Value).ownBlock) (fun k_ => ((fun k_ => some k_ ≠ (.slice Ao9 t409.length co9 : Value).ownBlock ∧ some k_ ≠ (v416 : Value).ownBlock ∧ some k_ ≠ (v418 : Value).ownBlock ∧ some k_ ≠ (v422 : Value).ownBlock ∧ some k_ ≠ (v424 : Value).ownBlock)) k_ ∧ some k_ ≠ (v441 : Value).ownBlock) rfl rfl ?aP (fun _ hk => hk) ?aF ?aO ?aB ?aS ?aL ?_; (case aP => exact (k48_mkF _ _ (⟨1, y434⟩ : S48) (Kd.R_reads' (Kd.R_mono (ok' := (fun k_ => ((fun k_ => some k_ ≠ (.slice Ao9 t409.length co9 : Value).ownBlock ∧ some k_ ≠ (v416 : Value).ownBlock ∧ some k_ ≠ (v418 : Value).ownBlock ∧ some k_ ≠ (v422 : Value).ownBlock ∧ some k_ ≠ (v424 : Value).ownBlock)) k_ ∧ some k_ ≠ (v441 : Value).ownBlock)) (Kd.R_apart' (Kd.R_apart' (Kd.R_apart' (HO436.out) (Kd.N_typed HO_5.out) (by decide)) (Kd.N_typed HO_7.out) (by decide)) (Kd.N_typed HO442.out) (by decide)) (fun k_ hk => ⟨⟨hk.1.1.1.1, ⟨hk.1.1.2, ⟨hk.1.1.1.2.1, ⟨hk.1.2, hk.1.1.1.2.2⟩⟩⟩⟩, hk.2⟩))).2.1 (Kd.R_F (Kd.R_mono (ok' := (fun k_ => ((fun k_ => some k_ ≠ (.slice Ao9 t409.length co9 : Value).ownBlock ∧ some k_ ≠ (v416 : Value).ownBlock ∧ some k_ ≠ (v418 : Value).ownBlock ∧ some k_ ≠ (v422 : Value).ownBlock ∧ some k_ ≠ (v424 : Value).ownBlock)) k_ ∧ some k_ ≠ (v441 : Value).ownBlock)) (Kd.R_apart' (Kd.R_apart' (Kd.R_apart' (HO436.out) (Kd.N_typed HO_5.out) (by decide)) (Kd.N_typed HO_7.out) (by decide)) (Kd.N_typed HO442.out) (by decide)) (fun k_ hk => ⟨⟨hk.1.1.1.1, ⟨hk.1.1.2, ⟨hk.1.1.1.2.1, ⟨hk.1.2, hk.1.1.1.2.2⟩⟩⟩⟩, hk.2⟩))))); (case aB => exact (by repeat (first | (with_reducible first | exact HB.out | apply below_alloc | apply pw_below_drewN | apply below_drew1) | exact HB.out))); (case aF => exact (fun k_ hk => ⟨Kd.fresh' (Kd.R_lt (by (with_reducible repeat (first | apply Kd.R_alloc | apply Kd.R_drewN | apply Kd.R_drew)); exact HO_4.out)) k_ hk, Kd.fresh' (Kd.N_lt (by (with_reducible repeat (first | apply Kd.N_alloc | apply Kd.N_drewN | apply Kd.N_drew)); exact HO_5.out)) k_ hk, Kd.fresh' (Kd.R_lt (by (with_reducible repeat (first | apply Kd.R_alloc | apply Kd.R_drewN | apply Kd.R_drew)); exact HO_6.out)) k_ hk, Kd.fresh' (Kd.N_lt (by (with_reducible repeat (first | apply Kd.N_alloc | apply Kd.N_drewN | apply Kd.N_drew)); exact HO_7.out)) k_ hk, Kd.fresh' (Kd.R_lt (by (with_reducible repeat (first | apply Kd.R_alloc | apply Kd.R_drewN | apply Kd.R_drew)); exact HO_8.out)) k_ hk⟩)); (case aO => exact (by (with_reducible repeat (first | apply Kd.N_alloc | apply Kd.N_drewN | apply Kd.N_drew)); exact Kd.N_mono HO442.out (fun _ hk => ⟨hk.1, ⟨hk.2.1, ⟨hk.2.2.1, ⟨hk.2.2.2.1, hk.2.2.2.2.1⟩⟩⟩⟩))); (case aS => exact (below_size (by repeat (first | (with_reducible first | exact HB.out | apply below_alloc | apply pw_below_drewN | apply below_drew1) | exact HB.out)))); (case aL => have := LMc38.out; omega); intro v444 w50 ho hb hg hat; rw [← Ny443.out] at ho; have n0_ := Aside0.mk (Kd.N_afterv (ok := (fun k_ => some k_ ≠ (.slice Ao9 t409.length co9 : Value).ownBlock ∧ some k_ ≠ (v416 : Value).ownBlock ∧ some k_ ≠ (v418 : Value).ownBlock ∧ some k_ ≠ (v422 : Value).ownBlock ∧ some k_ ≠ (v424 : Value).ownBlock ∧ some k_ ≠ (.slice Ao49 y434.length co49 : Value).ownBlock)) (by (with_reducible repeat (first | apply Kd.N_alloc | apply Kd.N_drewN | apply Kd.N_drew)); exact HO_3.out) hg hat); have n1_ := Aside0.mk (Kd.R_over' (by (with_reducible repeat (first | apply Kd.R_alloc | apply Kd.R_drewN | apply Kd.R_drew)); exact HO_4.out) (Kd.N_typed (by (with_reducible repeat (first | apply Kd.N_alloc | apply Kd.N_drewN | apply Kd.N_drew)); exact HO442.out)) (by decide) hg); have n2_ := Aside0.mk (Kd.N_afterv (ok := (fun k_ => some k_ ≠ (.slice Ao8 t408.length co8 : Value).ownBlock ∧ some k_ ≠ (.slice Ao9 t409.length co9 : Value).ownBlock ∧ some k_ ≠ (v418 : Value).ownBlock ∧ some k_ ≠ (v422 : Value).ownBlock ∧ some k_ ≠ (v424 : Value).ownBlock ∧ some k_ ≠ (.slice Ao49 y434.length co49 : Value).ownBlock)) (by (with_reducible repeat (first | apply Kd.N_alloc | apply Kd.N_drewN | apply Kd.N_drew)); exact HO_5.out) hg hat); have n3_ := Aside0.mk (Kd.R_over' (by (with_reducible repeat (first | apply Kd.R_alloc | apply Kd.R_drewN | apply Kd.R_drew)); exact HO_6.out) (Kd.N_typed (by (with_reducible repeat (first | apply Kd.N_alloc | apply Kd.N_drewN | apply Kd.N_drew)); exact HO442.out)) (by decide) hg); have n4_ := Aside0.mk (Kd.N_afterv (ok := (fun k_ => some k_ ≠ (.slice Ao8 t408.length co8 : Value).ownBlock ∧ some k_ ≠ (.slice Ao9 t409.length co9 : Value).ownBlock ∧ some k_ ≠ (v416 : Value).ownBlock ∧ some k_ ≠ (v418 : Value).ownBlock ∧ some k_ ≠ (v424 : Value).ownBlock ∧ some k_ ≠ (.slice Ao49 y434.length co49 : Value).ownBlock)) (by (with_reducible repeat (first | apply Kd.N_alloc | apply Kd.N_drewN | apply Kd.N_drew)); exact HO_7.out) hg hat); have n5_ := Aside0.mk (Kd.R_over' (by (with_reducible repeat (first | apply Kd.R_alloc | apply Kd.R_drewN | apply Kd.R_drew)); exact HO_8.out) (Kd.N_typed (by (with_reducible repeat (first | apply Kd.N_alloc | apply Kd.N_drewN | apply Kd.N_drew)); exact HO442.out)) (by decide) hg); have n6_ := Aside0.mk (hb); have n7_ := Aside0.mk (ho); clear HO_3; clear HO_4; clear HO_5; clear HO_6; clear HO_7; clear HO_8; clear HB; clear HO442; clear HO436; have HO_3 := n0_; have HO_4 := n1_; have HO_5 := n2_; have HO_6 := n3_; have HO_7 := n4_; have HO_8 := n5_; have HB := n6_; have HO445 := n7_; clear n0_ n1_ n2_ n3_ n4_ n5_ n6_ n7_; clear ho hb hg hat; obtain ⟨Ao51, co51, eo51⟩ := Kd.N_slice HO445.out; subst eo51) | ((with_reducible refine gate_callee (f := 24) rfl ?_); refine goesL_ (some 74) rfl rfl Try.func24 (by kernel_rfl) rfl #[.slice Ao51 y443.length co51, .slice Ao9 t409.length co9] rfl (by (try simp only [List.map_toArray, List.map_cons, List.map_nil]); first | done | rfl | (simp only [List.length_drop, List.length_take]; rfl)) ?_; (with_reducible refine (impl_HeapGraph.calls kj5 _ _ y443 _ _ t409 t446 t447 _ ?side1 ?side2 ?side3 ?side4 A39.out).mono ?_); (case side1 => repeat (first | exact (Kd.N_reads' HO445.out).2.2 | (with_reducible refine Kd.C_alloc ?_ _) | (with_reducible refine Kd.C_drewN ?_ _) | (with_reducible refine Kd.C_drew ?_))); (case side2 => exact (Kd.N_reads' HO445.out).2.1); (case side3 => repeat (first | exact (Kd.R_reads' HO_4.out).2.2 | (with_reducible refine Kd.C_alloc ?_ _) | (with_reducible refine Kd.C_drewN ?_ _) | (with_reducible refine Kd.C_drew ?_))); (case side4 => exact (Kd.R_reads' HO_4.out).2.1); rintro e w52 ⟨v448, v450, rfl, ho0, ho1, hb⟩; refine ⟨_, rfl, ?_⟩; have n0_ := Aside0.mk (Kd.N_mono (Kd.N_told (Kd.N_told (Kd.N_old (by (with_reducible repeat (first | apply Kd.N_alloc | apply Kd.N_drewN | apply Kd.N_drew)); exact HO_3.out) hb) (Kd.S_base ho0)) (Kd.R_base ho1)) (fun _ h_ => h_.1)); have n1_ := Aside0.mk (Kd.R_elder' (by (with_reducible repeat (first | apply Kd.R_alloc | apply Kd.R_drewN | apply Kd.R_drew)); exact HO_4.out) (Kd.R_base ho1) hb); have n2_ := Aside0.mk (Kd.N_mono (Kd.N_told (Kd.N_told (Kd.N_old (by (with_reducible repeat (first | apply Kd.N_alloc | apply Kd.N_drewN | apply Kd.N_drew)); exact HO_5.out) hb) (Kd.S_base ho0)) (Kd.R_base ho1)) (fun _ h_ => h_.1)); have n3_ := Aside0.mk (Kd.R_elder' (by (with_reducible repeat (first | apply Kd.R_alloc | apply Kd.R_drewN | apply Kd.R_drew)); exact HO_6.out) (Kd.R_base ho1) hb); have n4_ := Aside0.mk (Kd.N_mono (Kd.N_told (Kd.N_told (Kd.N_old (by (with_reducible repeat (first | apply Kd.N_alloc | apply Kd.N_drewN | apply Kd.N_drew)); exact HO_7.out) hb) (Kd.S_base ho0)) (Kd.R_base ho1)) (fun _ h_ => h_.1)); have n5_ := Aside0.mk (Kd.R_elder' (by (with_reducible repeat (first | apply Kd.R_alloc | apply Kd.R_drewN | apply Kd.R_drew)); exact HO_8.out) (Kd.R_base ho1) hb); have n6_ := Aside0.mk (Kd.N_mono (Kd.N_told (Kd.N_told (Kd.N_old (by (with_reducible repeat (first | apply Kd.N_alloc | apply Kd.N_drewN | apply Kd.N_drew)); exact HO445.out) hb) (Kd.S_base ho0)) (Kd.R_base ho1)) (fun _ h_ => h_.1)); have n7_ := Aside0.mk (Kd.N_lower (Kd.N_mono (ok' := fun k_ => some k_ ≠ (v450 : Value).ownBlock ∧ some k_ ≠ (.slice Ao8 t408.length co8 : Value).ownBlock ∧ some k_ ≠ (.slice Ao9 t409.length co9 : Value).ownBlock ∧ some k_ ≠ (v416 : Value).ownBlock ∧ some k_ ≠ (v418 : Value).ownBlock ∧ some k_ ≠ (v422 : Value).ownBlock ∧ some k_ ≠ (v424 : Value).ownBlock ∧ some k_ ≠ (.slice Ao51 y443.length co51 : Value).ownBlock) (Kd.S_N (Kd.S_bound ho0)) (fun k_ hk_ => ⟨hk_.1, (Kd.fresh' (Kd.N_lt (by (with_reducible repeat (first | apply Kd.N_alloc | apply Kd.N_drewN | apply Kd.N_drew)); exact HO_3.out)) k_ hk_.2.1), (Kd.fresh' (Kd.R_lt (by (with_reducible repeat (first | apply Kd.R_alloc | apply Kd.R_drewN | apply Kd.R_drew)); exact HO_4.out)) k_ hk_.2.1), (Kd.fresh' (Kd.N_lt (by (with_reducible repeat (first | apply Kd.N_alloc | apply Kd.N_drewN | apply Kd.N_drew)); exact HO_5.out)) k_ hk_.2.1), (Kd.fresh' (Kd.R_lt (by (with_reducible repeat (first | apply Kd.R_alloc | apply Kd.R_drewN | apply Kd.R_drew)); exact HO_6.out)) k_ hk_.2.1), (Kd.fresh' (Kd.N_lt (by (with_reducible repeat (first | apply Kd.N_alloc | apply Kd.N_drewN | apply Kd.N_drew)); exact HO_7.out)) k_ hk_.2.1), (Kd.fresh' (Kd.R_lt (by (with_reducible repeat (first | apply Kd.R_alloc | apply Kd.R_drewN | apply Kd.R_drew)); exact HO_8.out)) k_ hk_.2.1), (Kd.fresh' (Kd.N_lt (by (with_reducible repeat (first | apply Kd.N_alloc | apply Kd.N_drewN | apply Kd.N_drew)); exact HO445.out)) k_ hk_.2.1)⟩)) (below_size (by repeat (first | (with_reducible first | exact HB.out | apply below_alloc | apply pw_below_drewN | apply below_drew1) | exact HB.out)))); have n8_ := Aside0.mk (Kd.R_lower (Kd.R_new' (Kd.R_new' (Kd.R_new' ho1 (Kd.R_lt (by (with_reducible repeat (first | apply Kd.R_alloc | apply Kd.R_drewN | apply Kd.R_drew)); exact HO_4.out))) (Kd.R_lt (by (with_reducible repeat (first | apply Kd.R_alloc | apply Kd.R_drewN | apply Kd.R_drew)); exact HO_6.out))) (Kd.R_lt (by (with_reducible repeat (first | apply Kd.R_alloc | apply Kd.R_drewN | apply Kd.R_drew)); exact HO_8.out))) (below_size (by repeat (first | (with_reducible first | exact HB.out | apply below_alloc | apply pw_below_drewN | apply below_drew1) | exact HB.out)))); have n9_ := Aside0.mk (below_step (by repeat (first | (with_reducible first | exact HB.out | apply below_alloc | apply pw_below_drewN | apply below_drew1) | exact HB.out)) hb); clear HO_3; clear HO_4; clear HO_5; clear HO_6; clear HO_7; clear HO_8; clear HO445; clear HB; have HO_3 := n0_; have HO_4 := n1_; have HO_5 := n2_; have HO_6 := n3_; have HO_7 := n4_; have HO_8 := n5_; have HO445 := n6_; have HO449 := n7_; have HO451 := n8_; have HB := n9_; clear n0_ n1_ n2_ n3_ n4_ n5_ n6_ n7_ n8_ n9_; (try clear hb); (try clear hb2); (try clear hk); (try clear hi); (try clear ho0); (try clear ho1); obtain ⟨Ao53, co53, eo53⟩ := Kd.N_slice HO449.out; subst eo53; obtain ⟨Ao54, co54, eo54⟩ := Kd.N_slice HO_5.out; subst eo54) | ((with_reducible refine gate_callee (f := 30) rfl ?_); refine goesL_ (some 79) rfl rfl Try.func30 (by kernel_rfl) rfl #[.slice Ao53 t446.length co53, .slice Ao54 t414.length co54] rfl (by (try simp only [List.map_toArray, List.map_cons, List.map_nil]); first | done | rfl | (simp only [List.length_drop, List.length_take]; rfl)) ?_; (with_reducible refine (laws_leObjs.calls kj5 _ _ t446 _ _ t414 true _ ?side1 ?side2 ?side3 ?side4 A40.out).mono ?_); (case side1 => repeat (first | exact (Kd.N_reads' HO449.out).2.2 | (with_reducible refine Kd.C_alloc ?_ _) | (with_reducible refine Kd.C_drewN ?_ _) | (with_reducible refine Kd.C_drew ?_))); (case side2 => exact (Kd.N_reads' HO449.out).2.1); (case side3 => repeat (first | exact (Kd.N_reads' HO_5.out).2.2 | (with_reducible refine Kd.C_alloc ?_ _) | (with_reducible refine Kd.C_drewN ?_ _) | (with_reducible refine Kd.C_drew ?_))); (case side4 => exact (Kd.N_reads' HO_5.out).2.1); rintro e w' ⟨rfl, ⟨nd, rfl⟩⟩; refine ⟨_, rfl, ?_⟩; obtain ⟨Ao55, co55, eo55⟩ := Kd.R_slice HO451.out; subst eo55; obtain ⟨Ao56, co56, eo56⟩ := Kd.R_slice HO_6.out; subst eo56) | (go_at_call 31; (with_reducible refine (laws_leVals.calls kj5 _ _ t447 _ _ t415 t453 _ ?side1 ?side2 ?side3 ?side4 A42.out).mono ?_); (case side1 => repeat (first | exact (Kd.R_reads' HO451.out).2.2 | (with_reducible refine Kd.C_alloc ?_ _) | (with_reducible refine Kd.C_drewN ?_ _) | (with_reducible refine Kd.C_drew ?_))); (case side2 => exact (Kd.R_reads' HO451.out).2.1); (case side3 => repeat (first | exact (Kd.R_reads' HO_6.out).2.2 | (with_reducible refine Kd.C_alloc ?_ _) | (with_reducible refine Kd.C_drewN ?_ _) | (with_reducible refine Kd.C_drew ?_))); (case side4 => exact (Kd.R_reads' HO_6.out).2.1); rintro e w' ⟨rfl, ⟨nd, rfl⟩⟩))
                  go_ret
                  exact ⟨by first | rfl | (simp [errW_none, errW_some] <;> rfl) | (simp [*, errW_none, errW_some] <;> rfl), by repeat (first | (with_reducible first | exact HB.out | apply below_alloc | apply pw_below_drewN | apply below_drew1) | exact HB.out)⟩
                · replace c41 := Bool.eq_false_iff.mpr c41
                  subst c41
                  have H1 : (some false) = some r := by rw [if_neg (show ¬ (false = true) by decide)] at H; exact H
                  clear H
                  have H := H1
                  clear H1
                  obtain rfl := Option.some.inj H
                  exact absurd hr_ (by decide)
              · rw [if_neg c38] at H
                exact absurd H (by simp)
            · rw [if_neg c37] at H
              exact absurd H (by simp)
          · rw [if_neg c36] at H
            exact absurd H (by simp)
theorem laws_FnGraphMore.walk (P : laws_FnGraphMore.Pure) (a0 : Option Addr) (len0 cap0 : Nat) (z0 : List Int) (w : World) (w0 : (a0 = none ∧ len0 = 0 ∧ cap0 = 0 ∧ z0 = []) ∨ ∃ x, a0 = some x ∧ len0 ≤ cap0 ∧ cap0 ≤ maxLen ∧ z0.length = cap0 ∧ (∀ i, i < z0.length → w.cell? (x.add i) = some (.int .u8 (z0.getD i 0))) ∧ ∀ n ∈ z0, (Lit.int .u8 n).wf = true) (y0 : len0 * 1 ≤ 140737488351232) :
    Calls Try.prog 9 #[.slice a0 len0 cap0] w fun e w' => e = .returned (.bool true) ∧ Below w.heap.size w w' := by
  obtain ⟨l0, rfl, hr0, hm0, hw0, hc0⟩ := ReadsInt.ofRowC w0
  obtain ⟨k, h⟩ := P l0 hm0 y0 hw0
  refine (laws_FnGraphMore.calls k _ _ l0 true w (Kd.C_of_reads (d := (0 : Int)) (h1 := fun _ => rfl) hr0) hc0 h rfl).mono ?_
  rintro e w' ⟨rfl, hd⟩
  exact ⟨rfl, hd⟩
end Go.Proofs.Yteeakklnlcjgbaa.P

end
section

namespace Go.Proofs.Yteeakklnlcjgbaa.Kit
open Go Go.RowKit Go.Proofs.YteeakklnlcjgbaaW.PrintWords
set_option linter.unusedVariables false
def Evp {α : Type} (g : Nat → Option α) (P : α → Prop) : Prop := ∃ r, Ev g r ∧ P r
theorem Evp.pure {α : Type} {P : α → Prop} (r : α) (h : P r) : Evp (fun _ => some r) P := ⟨r, Ev.now r, h⟩
theorem Evp.bind {α β : Type} {g : Nat → Option α} {f : Nat → α → Option β} {P : α → Prop} {Q : β → Prop} (h : Evp g P) (k : ∀ a, P a → Evp (fun n => f n a) Q) : Evp (fun n => (g n).bind (f n)) Q := by
  obtain ⟨a, ha, hp⟩ := h
  obtain ⟨r, hr, hq⟩ := k a hp
  exact ⟨r, Ev.bind ha hr, hq⟩
theorem Evp.step {α : Type} {g f : Nat → Option α} {P : α → Prop} (h : ∀ k, g (k + 1) = f k) (k : Evp f P) : Evp g P := by
  obtain ⟨r, hr, hp⟩ := k
  exact ⟨r, Ev.step h hr, hp⟩
theorem Evp.congr {α : Type} {g f : Nat → Option α} {P : α → Prop} (h : ∀ k, g k = f k) (k : Evp f P) : Evp g P := by
  obtain ⟨r, hr, hp⟩ := k
  exact ⟨r, Ev.congr h hr, hp⟩
theorem Evp.mono {α : Type} {g : Nat → Option α} {P Q : α → Prop} (h : Evp g P) (hpq : ∀ r, P r → Q r) : Evp g Q := by
  obtain ⟨r, hr, hp⟩ := h
  exact ⟨r, hr, hpq r hp⟩
theorem Evp.yes {α : Type} {c : Prop} [Decidable c] {f g : Nat → Option α} {P : α → Prop} (hc : c) (h : Evp f P) : Evp (fun n => if c then f n else g n) P := by
  simp only [if_pos hc]; exact h
theorem Evp.no {α : Type} {c : Prop} [Decidable c] {f g : Nat → Option α} {P : α → Prop} (hc : ¬ c) (h : Evp g P) : Evp (fun n => if c then f n else g n) P := by
  simp only [if_neg hc]; exact h
theorem Evp.ite {α : Type} {c : Prop} [Decidable c] {f g : Nat → Option α} {P : α → Prop} (h : c → Evp f P) (k : ¬ c → Evp g P) : Evp (fun n => if c then f n else g n) P := by
  by_cases hc : c
  · exact Evp.yes hc (h hc)
  · exact Evp.no hc (k hc)
theorem Ev.of_evp {α : Type} {g : Nat → Option α} {r : α} (h : Evp g (fun x => x = r)) : Ev g r := by
  obtain ⟨x, hx, rfl⟩ := h
  exact hx
theorem Evp.rounds {α : Type} {g : Nat → Option α} {r : α} (h : Evp g (fun x => x = r)) : ∃ k, g k = some r := (Ev.of_evp h).rounds
theorem Evp.for_ {ρ : Type} {n : Nat} {g : Nat → Nat → Option ρ} {R : Nat → ρ → Prop} (hend : Evp (g n) (R n)) (hstep : ∀ i, i < n → Evp (g (i + 1)) (R (i + 1)) → Evp (g i) (R i)) : ∀ i, i ≤ n → Evp (g i) (R i) := by
  have key : ∀ d i, i + d = n → Evp (g i) (R i) := by
    intro d
    induction d with
    | zero => intro i hi; have : i = n := by omega
              subst this; exact hend
    | succ d ih => intro i hi; exact hstep i (by omega) (ih (i + 1) (by omega))
  intro i hi
  exact key (n - i) i (by omega)
theorem Evp.fors {σ ρ : Type} {n : Nat} {g : Nat → σ → Nat → Option ρ} {I : Nat → σ → Prop} {R : Nat → σ → ρ → Prop} (hend : ∀ s, I n s → Evp (g n s) (R n s))
    (hstep : ∀ i, i < n → (∀ s, I (i + 1) s → Evp (g (i + 1) s) (R (i + 1) s)) → ∀ s, I i s → Evp (g i s) (R i s)) : ∀ i, i ≤ n → ∀ s, I i s → Evp (g i s) (R i s) := by
  have key : ∀ d i, i + d = n → ∀ s, I i s → Evp (g i s) (R i s) := by
    intro d
    induction d with
    | zero => intro i hi; have : i = n := by omega
              subst this; exact hend
    | succ d ih => intro i hi; exact hstep i (by omega) (ih (i + 1) (by omega))
  intro i hi
  exact key (n - i) i (by omega)
theorem drop_at {α : Type} {xs : List α} {i : Nat} (h : i < xs.length) : xs.drop i = xs[i] :: xs.drop (i + 1) := List.drop_eq_getElem_cons h
theorem getD_at {α : Type} {xs : List α} {i : Nat} (h : i < xs.length) (d : α) : xs.getD i d = xs[i] := by
  rw [List.getD_eq_getElem?_getD, List.getElem?_eq_getElem h]; rfl
theorem w64' {i n : Nat} (h : i < n) (hn : n ≤ 9223372036854775807) : wrap64 ((i : Int) + 1) = ((i + 1 : Nat) : Int) := by unfold wrap64; omega
theorem w64 {n : Int} (h0 : -9223372036854775808 ≤ n) (h1 : n ≤ 9223372036854775807) : wrap64 n = n := by unfold wrap64; omega
theorem tmod_pos {a b : Int} (h0 : 0 ≤ a) : Int.tmod a b = a % b := Int.tmod_eq_emod_of_nonneg h0
theorem tdiv_pos {a b : Int} (h0 : 0 ≤ a) : Int.tdiv a b = a / b := Int.tdiv_eq_ediv_of_nonneg h0
theorem tmod_lo {a b : Int} (h0 : 0 ≤ a) (hb : 0 < b) : 0 ≤ Int.tmod a b ∧ Int.tmod a b < b := by
  rw [tmod_pos h0]; exact ⟨Int.emod_nonneg _ (by omega), Int.emod_lt_of_pos _ hb⟩
theorem xor_nonneg {a b : Int} (ha : 0 ≤ a) (ha' : a < 4611686018427387904) (hb : 0 ≤ b) (hb' : b < 4611686018427387904) :
    0 ≤ Go.bits .xor .i64 a b ∧ Go.bits .xor .i64 a b < 4611686018427387904 := by
  obtain ⟨x, rfl⟩ := Int.eq_ofNat_of_zero_le ha
  obtain ⟨y, rfl⟩ := Int.eq_ofNat_of_zero_le hb
  have hx : x < 2 ^ 62 := by omega
  have hy : y < 2 ^ 62 := by omega
  have hxy := Nat.xor_lt_two_pow hx hy
  have e : Go.bits .xor .i64 (x : Int) (y : Int) = ((x ^^^ y : Nat) : Int) := by
    show IntKind.i64.wrap (((BitVec.ofInt 64 (x : Int)) ^^^ (BitVec.ofInt 64 (y : Int))).toNat : Int) = _
    rw [BitVec.toNat_xor]
    have e1 : (BitVec.ofInt 64 (x : Int)).toNat = x := by simp; omega
    have e2 : (BitVec.ofInt 64 (y : Int)).toNat = y := by simp; omega
    rw [e1, e2, IntKind.wrap_i64]
    omega
  rw [e]
  omega
end Go.Proofs.Yteeakklnlcjgbaa.Kit

end
section

namespace Go.Proofs.Yteeakklnlcjgbaa.P
open Go.RowKit Go.Proofs.YteeakklnlcjgbaaW.PrintWords Go.Proofs.YteeakklnlcjgbaaW.PrintLast Go.Proofs.YteeakklnlcjgbaaW.PrintMore
attribute [local go_sem] max2_int min2_int max_two min_two max_three min_three max_four min_four
set_option linter.unusedVariables false
set_option linter.unusedSimpArgs false
end Go.Proofs.Yteeakklnlcjgbaa.P

end
section

namespace Go.Proofs.Yteeakklnlcjgbaa.P
open Go.RowKit Go.Proofs.YteeakklnlcjgbaaW.PrintWords Go.Proofs.YteeakklnlcjgbaaW.PrintLast Go.Proofs.YteeakklnlcjgbaaW.PrintMore
attribute [local go_sem] max2_int min2_int max_two min_two max_three min_three max_four min_four
set_option linter.unusedVariables false
set_option linter.unusedSimpArgs false
end Go.Proofs.Yteeakklnlcjgbaa.P

end
section

namespace Go.Proofs.Yteeakklnlcjgbaa.P
open Go.RowKit Go.Proofs.YteeakklnlcjgbaaW.PrintWords Go.Proofs.YteeakklnlcjgbaaW.PrintLast Go.Proofs.YteeakklnlcjgbaaW.PrintMore
attribute [local go_sem] max2_int min2_int max_two min_two max_three min_three max_four min_four
set_option linter.unusedVariables false
set_option linter.unusedSimpArgs false
end Go.Proofs.Yteeakklnlcjgbaa.P

end
section

namespace Go.Proofs.Yteeakklnlcjgbaa.P
open Go.RowKit Go.Proofs.YteeakklnlcjgbaaW.PrintWords Go.Proofs.YteeakklnlcjgbaaW.PrintLast Go.Proofs.YteeakklnlcjgbaaW.PrintMore
attribute [local go_sem] max2_int min2_int max_two min_two max_three min_three max_four min_four
set_option linter.unusedVariables false
set_option linter.unusedSimpArgs false
end Go.Proofs.Yteeakklnlcjgbaa.P

end
section

namespace Go.Proofs.Yteeakklnlcjgbaa.P
open Go.RowKit Go.Proofs.YteeakklnlcjgbaaW.PrintWords Go.Proofs.YteeakklnlcjgbaaW.PrintLast Go.Proofs.YteeakklnlcjgbaaW.PrintMore
attribute [local go_sem] max2_int min2_int max_two min_two max_three min_three max_four min_four
set_option linter.unusedVariables false
set_option linter.unusedSimpArgs false
end Go.Proofs.Yteeakklnlcjgbaa.P

end
section

namespace Go.Proofs.Yteeakklnlcjgbaa.P
open Go.RowKit Go.Proofs.YteeakklnlcjgbaaW.PrintWords Go.Proofs.YteeakklnlcjgbaaW.PrintLast Go.Proofs.YteeakklnlcjgbaaW.PrintMore
attribute [local go_sem] max2_int min2_int max_two min_two max_three min_three max_four min_four
set_option linter.unusedVariables false
set_option linter.unusedSimpArgs false
end Go.Proofs.Yteeakklnlcjgbaa.P

end
section

namespace Go.Proofs.Yteeakklnlcjgbaa.P
open Go.RowKit Go.Proofs.YteeakklnlcjgbaaW.PrintWords Go.Proofs.YteeakklnlcjgbaaW.PrintLast Go.Proofs.YteeakklnlcjgbaaW.PrintMore
attribute [local go_sem] max2_int min2_int max_two min_two max_three min_three max_four min_four
set_option linter.unusedVariables false
set_option linter.unusedSimpArgs false
end Go.Proofs.Yteeakklnlcjgbaa.P

end
section

namespace Go.Proofs.Yteeakklnlcjgbaa.P
open Go.RowKit Go.Proofs.YteeakklnlcjgbaaW.PrintWords Go.Proofs.YteeakklnlcjgbaaW.PrintLast Go.Proofs.YteeakklnlcjgbaaW.PrintMore
attribute [local go_sem] max2_int min2_int max_two min_two max_three min_three max_four min_four
set_option linter.unusedVariables false
set_option linter.unusedSimpArgs false
end Go.Proofs.Yteeakklnlcjgbaa.P

end
section

namespace Go.Proofs.Yteeakklnlcjgbaa.P
open Go.RowKit Go.Proofs.YteeakklnlcjgbaaW.PrintWords Go.Proofs.YteeakklnlcjgbaaW.PrintLast Go.Proofs.YteeakklnlcjgbaaW.PrintMore
attribute [local go_sem] max2_int min2_int max_two min_two max_three min_three max_four min_four
set_option linter.unusedVariables false
set_option linter.unusedSimpArgs false
end Go.Proofs.Yteeakklnlcjgbaa.P

end
section

namespace Go.Proofs.Yteeakklnlcjgbaa.P
open Go.RowKit Go.Proofs.YteeakklnlcjgbaaW.PrintWords Go.Proofs.YteeakklnlcjgbaaW.PrintLast Go.Proofs.YteeakklnlcjgbaaW.PrintMore
attribute [local go_sem] max2_int min2_int max_two min_two max_three min_three max_four min_four
set_option linter.unusedVariables false
set_option linter.unusedSimpArgs false
end Go.Proofs.Yteeakklnlcjgbaa.P

end
section

namespace Go.Proofs.Yteeakklnlcjgbaa.P
open Go.RowKit Go.Proofs.YteeakklnlcjgbaaW.PrintWords Go.Proofs.YteeakklnlcjgbaaW.PrintLast Go.Proofs.YteeakklnlcjgbaaW.PrintMore
attribute [local go_sem] max2_int min2_int max_two min_two max_three min_three max_four min_four
set_option linter.unusedVariables false
set_option linter.unusedSimpArgs false
end Go.Proofs.Yteeakklnlcjgbaa.P

end
section

namespace Go.Proofs.Yteeakklnlcjgbaa.P
open Go.RowKit Go.Proofs.YteeakklnlcjgbaaW.PrintWords Go.Proofs.YteeakklnlcjgbaaW.PrintLast Go.Proofs.YteeakklnlcjgbaaW.PrintMore
attribute [local go_sem] max2_int min2_int max_two min_two max_three min_three max_four min_four
set_option linter.unusedVariables false
set_option linter.unusedSimpArgs false
end Go.Proofs.Yteeakklnlcjgbaa.P

end
section

namespace Go.Proofs.Yteeakklnlcjgbaa.Kit
open Go Go.RowKit Go.Proofs.YteeakklnlcjgbaaW.PrintWords Go.Proofs.Yteeakklnlcjgbaa.P
set_option linter.unusedVariables false
def valOk (n : Nat) (v : S46) : Bool := !v.f0 || (decide (0 ≤ v.f1) && decide (v.f1 ≤ (n : Int)))
def heapOk (objs : List S48) (roots : List S46) : Bool := roots.all (valOk objs.length) && objs.all fun o => o.f1.all (valOk objs.length)
theorem spec_val (v : S46) (n : Nat) : spec_l12Val.f v.f0 v.f1 (n : Int) = some (valOk n v) := by
  obtain ⟨b, x⟩ := v
  unfold spec_l12Val.f valOk spec_l6In.f
  cases b <;> by_cases h1 : 0 ≤ x <;> simp [h1]
theorem impl_val (v : S46) (n : Nat) : impl_leadsOk.f v.f0 v.f1 (n : Int) = some (valOk n v) := by
  obtain ⟨b, x⟩ := v
  unfold impl_leadsOk.f valOk
  cases b <;> by_cases h1 : 0 ≤ x <;> simp [h1]
theorem rd46 {xs : List S46} {i : Nat} (h : i < xs.length) : rd_T46 xs (i : Int) = xs[i] := getD_at h _
theorem rd48 {xs : List S48} {i : Nat} (h : i < xs.length) : rd_T48 xs (i : Int) = xs[i] := getD_at h _
def Small (objs : List S48) : Prop := objs.length ≤ 1073741824 ∧ ∀ o ∈ objs, o.f1.length ≤ 1073741824
theorem spec_heap {objs : List S48} {roots : List S46} (ho : Small objs) (hr : roots.length ≤ 1073741824) : Evp (fun k => spec_HeapOk.f k objs roots) (fun r => r = heapOk objs roots) := by
  have h1 : ∀ i, i ≤ objs.length → Evp (fun k => spec_HeapOk.l1 k objs (i : Int)) (fun r => r = (objs.drop i).all fun o => o.f1.all (valOk objs.length)) := by
    refine Evp.for_ ?_ (fun i hi ih => ?_)
    · refine Evp.step (f := fun k => _) (fun k => by rw [spec_HeapOk.l1]) (Evp.no (by omega) (Evp.pure _ (by simp)))
    · refine Evp.step (f := fun k => _) (fun k => by rw [spec_HeapOk.l1]) (Evp.yes (by omega) ?_)
      have hv : objs[i].f1.length ≤ 1073741824 := ho.2 _ (List.getElem_mem hi)
      have ho1 := ho.1
      have h2 : ∀ j, j ≤ objs[i].f1.length → Evp (fun k => spec_HeapOk.l2 k objs (i : Int) (j : Int)) (fun r => r = ((objs[i].f1.drop j).all (valOk objs.length) && (objs.drop (i + 1)).all fun o => o.f1.all (valOk objs.length))) := by
        refine Evp.for_ ?_ (fun j hj ihj => ?_)
        · refine Evp.step (f := fun k => _) (fun k => by rw [spec_HeapOk.l2, rd48 hi]) (Evp.yes (by omega) (Evp.yes (by omega) (Evp.no (by omega) ?_)))
          rw [w64' hi (by omega)]
          simpa using ih
        · refine Evp.step (f := fun k => _) (fun k => by rw [spec_HeapOk.l2, rd48 hi, rd46 hj, spec_val, Option.bind_some]) (Evp.yes (by omega) (Evp.yes (by omega) (Evp.yes (by omega) (Evp.yes (by omega) ?_))))
          rw [w64' hj (by omega), drop_at hj, List.all_cons]
          refine Evp.ite (fun h => ?_) (fun h => Evp.pure _ (by simp [h]))
          simpa [h] using ihj
      rw [drop_at hi, List.all_cons]
      simpa using h2 0 (Nat.zero_le _)
  have h0 : ∀ i, i ≤ roots.length → Evp (fun k => spec_HeapOk.l0 k objs roots (i : Int)) (fun r => r = ((roots.drop i).all (valOk objs.length) && objs.all fun o => o.f1.all (valOk objs.length))) := by
    refine Evp.for_ ?_ (fun i hi ih => ?_)
    · refine Evp.step (f := fun k => _) (fun k => by rw [spec_HeapOk.l0]) (Evp.no (by omega) ?_)
      simpa using h1 0 (Nat.zero_le _)
    · refine Evp.step (f := fun k => _) (fun k => by rw [spec_HeapOk.l0, rd46 hi, spec_val, Option.bind_some]) (Evp.yes (by omega) (Evp.yes (by omega) ?_))
      rw [w64' hi (by omega), drop_at hi, List.all_cons]
      refine Evp.ite (fun h => ?_) (fun h => Evp.pure _ (by simp [h]))
      simpa [h] using ih
  exact h0 0 (Nat.zero_le _)
theorem impl_heap {objs : List S48} {roots : List S46} (ho : Small objs) (hr : roots.length ≤ 1073741824) : Evp (fun k => impl_HeapOk.f k objs roots) (fun r => r = heapOk objs roots) := by
  have h1 : ∀ i, i ≤ objs.length → Evp (fun k => impl_HeapOk.l1 k objs objs (objs.length : Int) (i : Int)) (fun r => r = (objs.drop i).all fun o => o.f1.all (valOk objs.length)) := by
    refine Evp.for_ ?_ (fun i hi ih => ?_)
    · refine Evp.step (f := fun k => _) (fun k => by rw [impl_HeapOk.l1]) (Evp.no (by omega) (Evp.pure _ (by simp)))
    · refine Evp.step (f := fun k => _) (fun k => by rw [impl_HeapOk.l1, rd48 hi]) (Evp.yes (by omega) (Evp.yes (by omega) (Evp.yes (by omega) ?_)))
      have hv : objs[i].f1.length ≤ 1073741824 := ho.2 _ (List.getElem_mem hi)
      have ho1 := ho.1
      have h2 : ∀ j, j ≤ objs[i].f1.length → Evp (fun k => impl_HeapOk.l2 k objs objs (objs.length : Int) (i : Int) objs[i].f1 (objs[i].f1.length : Int) (j : Int)) (fun r => r = ((objs[i].f1.drop j).all (valOk objs.length) && (objs.drop (i + 1)).all fun o => o.f1.all (valOk objs.length))) := by
        refine Evp.for_ ?_ (fun j hj ihj => ?_)
        · refine Evp.step (f := fun k => _) (fun k => by rw [impl_HeapOk.l2]) (Evp.no (by omega) ?_)
          rw [w64' hi (by omega)]
          simpa using ih
        · refine Evp.step (f := fun k => _) (fun k => by rw [impl_HeapOk.l2, rd46 hj, impl_val, Option.bind_some]) (Evp.yes (by omega) (Evp.yes (by omega) (Evp.yes (by omega) ?_)))
          rw [w64' hj (by omega), drop_at hj, List.all_cons]
          refine Evp.ite (fun h => ?_) (fun h => Evp.pure _ (by simp [h]))
          simpa [h] using ihj
      rw [drop_at hi, List.all_cons]
      simpa using h2 0 (Nat.zero_le _)
  have h0 : ∀ i, i ≤ roots.length → Evp (fun k => impl_HeapOk.l0 k objs roots (roots.length : Int) (i : Int)) (fun r => r = ((roots.drop i).all (valOk objs.length) && objs.all fun o => o.f1.all (valOk objs.length))) := by
    refine Evp.for_ ?_ (fun i hi ih => ?_)
    · refine Evp.step (f := fun k => _) (fun k => by rw [impl_HeapOk.l0]) (Evp.no (by omega) ?_)
      simpa using h1 0 (Nat.zero_le _)
    · refine Evp.step (f := fun k => _) (fun k => by rw [impl_HeapOk.l0, rd46 hi, impl_val, Option.bind_some]) (Evp.yes (by omega) (Evp.yes (by omega) (Evp.yes (by omega) ?_)))
      rw [w64' hi (by omega), drop_at hi, List.all_cons]
      refine Evp.ite (fun h => ?_) (fun h => Evp.pure _ (by simp [h]))
      simpa [h] using ih
  exact h0 0 (Nat.zero_le _)
end Go.Proofs.Yteeakklnlcjgbaa.Kit

end
section

namespace Go.Proofs.Yteeakklnlcjgbaa.Kit
open Go Go.RowKit Go.Proofs.YteeakklnlcjgbaaW.PrintWords Go.Proofs.Yteeakklnlcjgbaa.P
set_option linter.unusedVariables false
def comeV (o : List Int) (v : S46) : List Int := if v.f0 = true ∧ v.f1 ≠ 0 ∧ v.f1 ∉ o then o ++ [v.f1] else o
def Inv (n : Nat) (o : List Int) : Prop := o.Nodup ∧ ∀ x ∈ o, 1 ≤ x ∧ x ≤ (n : Int)
theorem nodup_le : ∀ (n : Nat) (o : List Int), o.Nodup → (∀ x ∈ o, 1 ≤ x ∧ x ≤ (n : Int)) → o.length ≤ n
  | 0, [], _, _ => Nat.le_refl _
  | 0, a :: o, _, h => by have := h a (by simp); omega
  | n + 1, o, hd, h => by
    by_cases hm : ((n + 1 : Nat) : Int) ∈ o
    · have h1 := nodup_le n (o.erase ((n + 1 : Nat) : Int)) (hd.erase _) (fun x hx => by
        obtain ⟨h2, h3⟩ := hd.mem_erase_iff.1 hx
        have := h x h3
        omega)
      rw [List.length_erase_of_mem hm] at h1
      omega
    · have := nodup_le n o hd (fun x hx => by
        have h2 := h x hx
        have : x ≠ ((n + 1 : Nat) : Int) := fun e => hm (e ▸ hx)
        omega)
      omega
theorem Inv.len {n : Nat} {o : List Int} (h : Inv n o) : o.length ≤ n := nodup_le n o h.1 h.2
theorem Inv.nil (n : Nat) : Inv n [] := ⟨List.nodup_nil, by simp⟩
theorem valOk_iff {n : Nat} {v : S46} : valOk n v = true ↔ (v.f0 = true → 0 ≤ v.f1 ∧ v.f1 ≤ (n : Int)) := by
  unfold valOk
  cases v.f0 <;> simp
theorem Inv.come {n : Nat} {o : List Int} {v : S46} (h : Inv n o) (hv : valOk n v = true) : Inv n (comeV o v) := by
  unfold comeV
  split
  · rename_i hc
    obtain ⟨h1, h2, h3⟩ := hc
    have h4 := valOk_iff.1 hv h1
    refine ⟨?_, ?_⟩
    · rw [List.nodup_append]
      refine ⟨h.1, by simp, ?_⟩
      intro a ha b hb e
      simp at hb
      subst hb
      subst e
      exact h3 ha
    · intro x hx
      rcases List.mem_append.1 hx with hx | hx
      · exact h.2 x hx
      · simp at hx
        subst hx
        omega
  · exact h
theorem Inv.fold {n : Nat} : ∀ {vs : List S46} {o : List Int}, Inv n o → (∀ v ∈ vs, valOk n v = true) → Inv n (vs.foldl comeV o)
  | [], _, h, _ => h
  | v :: vs, o, h, hv => by
    show Inv n (vs.foldl comeV (comeV o v))
    exact Inv.fold (h.come (hv v (by simp))) (fun u hu => hv u (by simp [hu]))
theorem step_ok {n : Nat} {o : List Int} {v : S46} (h : Inv n o) (hv : valOk n v = true) (hn : n ≤ 1073741824) : g_step (n + 1) o v = some (comeV o v) := by
  have hl := h.len
  unfold g_step comeV
  by_cases h1 : v.f0 = true
  · have h2 := valOk_iff.1 hv h1
    rw [if_pos h1]
    by_cases h3 : v.f1 = 0
    · simp [h3]
    · rw [if_neg h3, if_pos (by omega)]
      by_cases h4 : v.f1 ∈ o
      · simp [h4]
      · rw [if_neg h4, if_pos (by omega), if_pos ⟨h1, h3, h4⟩]
  · rw [if_neg h1, if_neg (fun h => h1 h.1)]
theorem comes_ok {n : Nat} {vs : List S46} (hn : n ≤ 1073741824) (hl : vs.length ≤ 1073741824) (hv : ∀ v ∈ vs, valOk n v = true) : ∀ i, i ≤ vs.length → ∀ o : List Int, Inv n o → Evp (fun k => g_comes k (n + 1) vs (i : Int) o) (fun r => r = (vs.drop i).foldl comeV o) := by
  refine Evp.fors (g := fun i o k => g_comes k (n + 1) vs (i : Int) o) (I := fun _ o => Inv n o) (R := fun i o r => r = (vs.drop i).foldl comeV o) (fun o ho => ?_) (fun i hi ih o ho => ?_)
  · exact Evp.step (f := fun k => _) (fun k => by rw [g_comes]) (Evp.no (by omega) (Evp.pure _ (by simp)))
  · have hvi := hv _ (List.getElem_mem hi)
    refine Evp.step (f := fun k => _) (fun k => by rw [g_comes, rd46 hi, step_ok ho hvi hn, Option.bind_some]) (Evp.yes (by omega) (Evp.yes (by omega) ?_))
    rw [w64' hi (by omega), drop_at hi, List.foldl_cons]
    exact ih _ (ho.come hvi)
def valsAt (objs : List S48) (x : Int) : List S46 := (objs.getD (x - 1).toNat z48).f1
def walkP (objs : List S48) : Nat → Nat → List Int → List Int
  | 0, _, o => o
  | d + 1, i, o => if h : i < o.length then walkP objs d (i + 1) ((valsAt objs o[i]).foldl comeV o) else o
structure Fine (objs : List S48) : Prop where
  n : objs.length ≤ 1073741824
  l : ∀ o ∈ objs, o.f1.length ≤ 1073741824
  v : ∀ o ∈ objs, ∀ v ∈ o.f1, valOk objs.length v = true
theorem valsAt_mem {objs : List S48} {x : Int} (h0 : 1 ≤ x) (h1 : x ≤ (objs.length : Int)) : ∃ h : (x - 1).toNat < objs.length, valsAt objs x = objs[(x - 1).toNat].f1 := by
  have h : (x - 1).toNat < objs.length := by omega
  exact ⟨h, by rw [valsAt, getD_at h]⟩
theorem Fine.vals {objs : List S48} (h : Fine objs) {x : Int} (h0 : 1 ≤ x) (h1 : x ≤ (objs.length : Int)) : (valsAt objs x).length ≤ 1073741824 ∧ ∀ v ∈ valsAt objs x, valOk objs.length v = true := by
  obtain ⟨hlt, e⟩ := valsAt_mem h0 h1
  rw [e]
  exact ⟨h.l _ (List.getElem_mem hlt), h.v _ (List.getElem_mem hlt)⟩
theorem rd_int {o : List Int} {i : Nat} (h : i < o.length) : rd o (i : Int) = o[i] := by simp [rd, h]
theorem rd_obj {objs : List S48} {x : Int} (h0 : 1 ≤ x) (h1 : x ≤ (objs.length : Int)) : (rd_T48 objs (x - 1)).f1 = valsAt objs x := rfl
theorem walk_ok {objs : List S48} (hf : Fine objs) : ∀ d i (o : List Int), Inv objs.length o → objs.length + 1 ≤ i + d → Evp (fun k => g_walk k objs (i : Int) o) (fun r => r = walkP objs d i o)
  | 0, i, o, ho, hd => by
    have := ho.len
    refine Evp.step (f := fun k => _) (fun k => by rw [g_walk]) (Evp.no (by omega) (Evp.pure o rfl))
  | d + 1, i, o, ho, hd => by
    have hn := hf.n
    by_cases hi : i < o.length
    · have hx := ho.2 _ (List.getElem_mem hi)
      have hw : wrap64 (o[i] - 1) = o[i] - 1 := w64 (by omega) (by omega)
      have hlen := ho.len
      have hv := hf.vals hx.1 hx.2
      refine Evp.step (f := fun k => _) (fun k => by rw [g_walk, rd_int hi, hw, rd_obj hx.1 hx.2]) (Evp.yes (by omega) (Evp.yes (by omega) ?_))
      refine Evp.bind (f := fun k o' => g_walk k objs (wrap64 ((i : Int) + 1)) o') (comes_ok hn hv.1 hv.2 0 (Nat.zero_le _) o ho) (fun o' e => ?_)
      subst e
      rw [w64' hi (by omega), walkP, dif_pos hi]
      exact walk_ok hf d (i + 1) _ (ho.fold (by simpa using hv.2)) (by omega)
    · refine Evp.step (f := fun k => _) (fun k => by rw [g_walk]) (Evp.no (by omega) (Evp.pure _ ?_))
      rw [walkP, dif_neg hi]
def Cov (o : List Int) (v : S46) : Prop := v.f0 = true → v.f1 = 0 ∨ v.f1 ∈ o
theorem come_pre (o : List Int) (v : S46) : o <+: comeV o v := by
  unfold comeV
  split
  · exact List.prefix_append _ _
  · exact List.prefix_refl _
theorem come_cov (o : List Int) (v : S46) : Cov (comeV o v) v := by
  intro h
  unfold comeV
  by_cases h0 : v.f1 = 0
  · exact .inl h0
  · right
    by_cases hm : v.f1 ∈ o
    · simp [hm]
    · rw [if_pos ⟨h, h0, hm⟩]
      simp
theorem Cov.pre {o o' : List Int} {v : S46} (h : Cov o v) (hp : o <+: o') : Cov o' v := fun hf => (h hf).imp id (fun hm => hp.subset hm)
theorem fold_pre : ∀ (vs : List S46) (o : List Int), o <+: vs.foldl comeV o
  | [], o => List.prefix_refl _
  | v :: vs, o => (come_pre o v).trans (fold_pre vs _)
theorem fold_cov : ∀ (vs : List S46) (o : List Int), ∀ v ∈ vs, Cov (vs.foldl comeV o) v
  | [], _, _, h => by simp at h
  | u :: vs, o, v, h => by
    rcases List.mem_cons.1 h with rfl | h
    · exact (come_cov o _).pre (fold_pre vs _)
    · exact fold_cov vs _ v h
theorem walk_pre (objs : List S48) : ∀ d i o, o <+: walkP objs d i o
  | 0, _, o => List.prefix_refl _
  | d + 1, i, o => by
    rw [walkP]
    split
    · exact (fold_pre _ _).trans (walk_pre objs d (i + 1) _)
    · exact List.prefix_refl _
theorem walk_inv {objs : List S48} (hf : Fine objs) : ∀ d i (o : List Int), Inv objs.length o → Inv objs.length (walkP objs d i o)
  | 0, _, _, h => h
  | d + 1, i, o, h => by
    rw [walkP]
    split
    · rename_i hi
      have hx := h.2 _ (List.getElem_mem hi)
      exact walk_inv hf d (i + 1) _ (h.fold (hf.vals hx.1 hx.2).2)
    · exact h
theorem walk_cov {objs : List S48} (hf : Fine objs) : ∀ d i (o : List Int), Inv objs.length o → objs.length + 1 ≤ i + d → (∀ j (h : j < o.length), j < i → ∀ v ∈ valsAt objs o[j], Cov o v) → ∀ x ∈ walkP objs d i o, ∀ v ∈ valsAt objs x, Cov (walkP objs d i o) v
  | 0, i, o, ho, hd, hc => by
    intro x hx v hv
    obtain ⟨j, hj, rfl⟩ := List.getElem_of_mem hx
    exact hc j hj (by have := ho.len; simp only [walkP] at hj; omega) v hv
  | d + 1, i, o, ho, hd, hc => by
    rw [walkP]
    split
    · rename_i hi
      have hx := ho.2 _ (List.getElem_mem hi)
      refine walk_cov hf d (i + 1) _ (ho.fold (hf.vals hx.1 hx.2).2) (by omega) (fun j hj hji v hv => ?_)
      have hjo : j < o.length := by omega
      have e : ((valsAt objs o[i]).foldl comeV o)[j] = o[j] := (fold_pre _ _).getElem hjo |>.symm
      rw [e] at hv
      by_cases hj2 : j = i
      · subst hj2
        exact fold_cov _ _ v hv
      · exact (hc j hjo (by omega) v hv).pre (fold_pre _ _)
    · rename_i hi
      intro x hx v hv
      obtain ⟨j, hj, rfl⟩ := List.getElem_of_mem hx
      exact hc j hj (by omega) v hv
end Go.Proofs.Yteeakklnlcjgbaa.Kit

end
