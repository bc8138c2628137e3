/- A part of the claim FnExactUnitOk: texts of this session and texts that its program printed out of the translation, joined. -/
import Derived.Test.YtedodaifpekahaaCFnExactUnitOk21
import Derived.Test.YtedodaifpekahaaCFnExactUnitOk22
import Derived.Test.YtedodaifpekahaaCFnExactUnitOk27
import Derived.Test.YtedodaifpekahaaCFnExactUnitOk28
import Derived.Test.YtedodaifpekahaaCFnExactUnitOk31
import Derived.Test.YtedodaifpekahaaCFnExactUnitOk32
import Derived.Test.YtedodaifpekahaaCFnExactUnitOk20
import Derived.Deep.Slices
import Derived.Lib.SmallJoins
import Derived.DataReads
import Derived.WideShapes
import Derived.Test.YtedodaifpekahaaCFnExactUnitOk0
import Derived.Test.YtedodaifpekahaaCFnExactUnitOk1
import Derived.Test.YtedodaifpekahaaCFnExactUnitOk2
import Derived.Test.YtedodaifpekahaaCFnExactUnitOk3
import Derived.Test.YtedodaifpekahaaCFnExactUnitOk4
import Derived.Test.YtedodaifpekahaaCFnExactUnitOk5
import Derived.Test.YtedodaifpekahaaCFnExactUnitOk6
import Derived.Test.YtedodaifpekahaaCFnExactUnitOk7
import Derived.Test.YtedodaifpekahaaCFnExactUnitOk8
import Derived.Test.YtedodaifpekahaaCFnExactUnitOk9
import Derived.Test.YtedodaifpekahaaCFnExactUnitOk10
import Derived.Test.YtedodaifpekahaaCFnExactUnitOk11
import Derived.Test.YtedodaifpekahaaCFnExactUnitOk12
import Derived.Test.YtedodaifpekahaaCFnExactUnitOk13
import Derived.Test.YtedodaifpekahaaCFnExactUnitOk14
import Derived.Test.YtedodaifpekahaaCFnExactUnitOk15
import Derived.Test.YtedodaifpekahaaCFnExactUnitOk16
import Derived.Test.YtedodaifpekahaaCFnExactUnitOk17
import Derived.Test.YtedodaifpekahaaCFnExactUnitOk18
import Derived.Test.YtedodaifpekahaaCFnExactUnitOk19
import Derived.Test.YtedodaifpekahaaCFnExactUnitOk23
import Derived.Test.YtedodaifpekahaaCFnExactUnitOk24
import Derived.Test.YtedodaifpekahaaCFnExactUnitOk25
import Derived.Test.YtedodaifpekahaaCFnExactUnitOk26
import Derived.Test.YtedodaifpekahaaCFnExactUnitOk29
import Derived.Test.YtedodaifpekahaaCFnExactUnitOk30
section

namespace Go.Proofs.Ytedodaifpekahaa.P
open Go.RowKit Go.Proofs.YtedodaifpekahaaW.PrintWords Go.Proofs.YtedodaifpekahaaW.PrintLast Go.Proofs.YtedodaifpekahaaW.PrintMore
attribute [local go_sem] max2_int min2_int max_two min_two max_three min_three max_four min_four
set_option linter.unusedVariables false
set_option linter.unusedSimpArgs false
set_option maxHeartbeats 8000000 in
set_option maxRecDepth 100000 in
theorem laws_FnExactUnitOk.calls (k : Nat) (A0_0 : Option Addr) (c0_0 : Nat) (l0_0 : List (S58)) (A0_1 : Option Addr) (c0_1 : Nat) (l0_1 : List (S64)) (r : Bool) (w : World) (hr0_0 : Kd.C k58 w A0_0 l0_0.length l0_0) (hc0_0 : l0_0.length ≤ c0_0) (hr0_1 : Kd.C k64 w A0_1 l0_1.length l0_1) (hc0_1 : l0_1.length ≤ c0_1) (h : laws_FnExactUnitOk.f k l0_0 l0_1 = some r) (hr_ : r = true) :
  Calls Try.prog 3 #[.agg #[.slice A0_0 l0_0.length c0_0, .slice A0_1 l0_1.length c0_1]] w fun e w' => e = .returned (.bool r) ∧ Below w.heap.size w w' := by
 have hu25 := Try.underlying25
 have hu31 := Try.underlying31
 have HR0_0 := Aside0.mk hr0_0
 have HC0_0 := Aside0.mk hc0_0
 clear hr0_0 hc0_0
 have HR0_1 := Aside0.mk hr0_1
 have HC0_1 := Aside0.mk hc0_1
 clear hr0_1 hc0_1
 have HB := Aside0.mk (Below.refl w.heap.size w)
 have H : ((laws_szUnit.f k l0_0 l0_1 1048576).bind fun t451 => (if t451 < 0 then (some true) else ((laws_toUnit.f k l0_0 l0_1).bind fun bt452 => ((spec_UnitOk.f k bt452.1 bt452.2).bind fun t458 => ((laws_toUnit.f k l0_0 l0_1).bind fun bt459 => ((impl_UnitOk.f k bt459.1 bt459.2).bind fun t466 => (if (t466 != t458) = true then (some false) else ((laws_toUnit.f k l0_0 l0_1).bind fun bt467 => ((laws_eqUnit.f k bt459.1 bt459.2 bt467.1 bt467.2).bind fun t473 => (if t473 = true then (some true) else (some false))))))))))) = some r := h
 clear h
 obtain ⟨t451, A2, H⟩ := ob H
 by_cases c3 : t451 < 0
 ·rw [if_pos c3] at H
  have c3b0 : decide (t451 < 0) = true := decide_eq_true c3
  clear c3
  obtain rfl := Option.some.inj H; clear H
  go_enter Try.func3, Try.ntmps3
  go_wp2_with (first | ((with_reducible refine gd 1 rfl ?_); refine bx 1 #[.slice A0_0 l0_0.length c0_0, .slice A0_1 l0_1.length c0_1] 25 ?_; intro gb450 hg w4 hbox hb; have BK450 := Aside0.mk hbox; have GW450 := hz HB hg; have GE450 := hz HB hg; replace HB := hs HB hb; clear hb hbox hg; obtain ⟨_,_,_,_⟩ := cf2 BK450) | ((with_reducible refine gc 5 rfl ?_); refine gl (some 9) Try.func5 #[.agg #[.slice A0_0 l0_0.length c0_0, .slice A0_1 l0_1.length c0_1], .int .i64 1048576] rfl ?_; (with_reducible refine (laws_szUnit.calls k _ _ l0_0 _ _ l0_1 1048576 t451 _ ?side1 ?side2 ?side3 ?side4 A2.out).mono ?_); (case side1 => exact cb HR0_0.out); (case side2 => exact HC0_0.out); (case side3 => exact cb HR0_1.out); (case side4 => exact HC0_1.out); rintro e w6 ⟨rfl, hb⟩; refine ⟨_, rfl, ?_⟩; replace BK450 := kb BK450 hb; replace HB := hs HB hb; (try clear hb)))
  go_ret
  exact fin
 ·rw [if_neg c3] at H
  have c3b0 : decide (t451 < 0) = false := decide_eq_false c3
  clear c3
  replace H := Option.bind_eq_some_iff.mp H
  obtain ⟨⟨t452, t455⟩, A70, H⟩ := H
  replace H : ((spec_UnitOk.f k t452 t455).bind fun t458 => ((laws_toUnit.f k l0_0 l0_1).bind fun bt459 => ((impl_UnitOk.f k bt459.1 bt459.2).bind fun t466 => (if (t466 != t458) = true then (some false) else ((laws_toUnit.f k l0_0 l0_1).bind fun bt467 => ((laws_eqUnit.f k bt459.1 bt459.2 bt467.1 bt467.2).bind fun t473 => (if t473 = true then (some true) else (some false)))))))) = some r := H
  have A7 := Aside0.mk A70
  clear A70
  obtain ⟨t458, A8, H⟩ := ob H
  replace H := Option.bind_eq_some_iff.mp H
  obtain ⟨⟨t459, t462⟩, A90, H⟩ := H
  replace H : ((impl_UnitOk.f k t459 t462).bind fun t466 => (if (t466 != t458) = true then (some false) else ((laws_toUnit.f k l0_0 l0_1).bind fun bt467 => ((laws_eqUnit.f k t459 t462 bt467.1 bt467.2).bind fun t473 => (if t473 = true then (some true) else (some false)))))) = some r := H
  have A9 := Aside0.mk A90
  clear A90
  obtain ⟨t466, A10, H⟩ := ob H
  by_cases c11 : (t466 != t458) = true
  ·rw [if_pos c11] at H
   have c11b0 : (t466 != t458) = true := c11
   (try (have c11b1 : decide (t466 = t458) = false := by simpa using c11))
   (try (have c11b2 : (t466 == t458) = false := by simpa using c11))
   (try (have c11b3 : ¬ (t466 = t458) := by simpa using c11))
   clear c11
   obtain rfl := Option.some.inj H
   exact absurd hr_ (by decide)
  ·rw [if_neg c11] at H
   have c11b0 : (t466 != t458) = false := by simpa using c11
   (try (have c11b1 : decide (t466 = t458) = true := by simpa using c11))
   (try (have c11b2 : (t466 == t458) = true := by simpa using c11))
   clear c11
   replace H := Option.bind_eq_some_iff.mp H
   obtain ⟨⟨t467, t470⟩, A120, H⟩ := H
   replace H : ((laws_eqUnit.f k t459 t462 t467 t470).bind fun t473 => (if t473 = true then (some true) else (some false))) = some r := H
   have A12 := Aside0.mk A120
   clear A120
   obtain ⟨t473, A13, H⟩ := ob H
   by_cases c14 : t473 = true
   ·subst c14
    replace H := it H
    obtain rfl := Option.some.inj H; clear H
    go_enter Try.func3, Try.ntmps3
    try go_wp2_with (first | ((with_reducible refine gd 1 rfl ?_); refine bx 1 #[.slice A0_0 l0_0.length c0_0, .slice A0_1 l0_1.length c0_1] 25 ?_; intro gb450 hg w15 hbox hb; have BK450 := Aside0.mk hbox; have GW450 := hz HB hg; have GE450 := hz HB hg; replace HB := hs HB hb; clear hb hbox hg; obtain ⟨_,_,_,_⟩ := cf2 BK450) | ((with_reducible refine gc 5 rfl ?_); refine gl (some 9) Try.func5 #[.agg #[.slice A0_0 l0_0.length c0_0, .slice A0_1 l0_1.length c0_1], .int .i64 1048576] rfl ?_; (with_reducible refine (laws_szUnit.calls k _ _ l0_0 _ _ l0_1 1048576 t451 _ ?side1 ?side2 ?side3 ?side4 A2.out).mono ?_); (case side1 => exact cb HR0_0.out); (case side2 => exact HC0_0.out); (case side3 => exact cb HR0_1.out); (case side4 => exact HC0_1.out); rintro e w17 ⟨rfl, hb⟩; refine ⟨_, rfl, ?_⟩; replace BK450 := kb BK450 hb; replace HB := hs HB hb; (try clear hb); obtain ⟨_,_,_,_⟩ := cf2 BK450) | ((with_reducible refine gc 7 rfl ?_); refine gl (some 13) Try.func7 #[.agg #[.slice A0_0 l0_0.length c0_0, .slice A0_1 l0_1.length c0_1]] rfl ?_; (with_reducible refine (laws_toUnit.calls k _ _ l0_0 _ _ l0_1 t452 t455 _ ?side1 ?side2 ?side3 ?side4 A7.out).mono ?_); (case side1 => exact cb HR0_0.out); (case side2 => exact HC0_0.out); (case side3 => exact cb HR0_1.out); (case side4 => exact HC0_1.out); rintro e w19 ⟨v453, v456, rfl, ho0, ho1, hb⟩; refine ⟨_, rfl, ?_⟩; have HO454 := Aside0.mk (Kd.S_lower ho0 (below_size bl)); have HO457 := Aside0.mk (Kd.R_lower ho1 (below_size bl)); replace BK450 := kb BK450 hb; replace HB := hs HB hb; (try clear hb); (try clear ho0); (try clear ho1); obtain ⟨Ao20, co20, eo20⟩ := Kd.S_slice HO454.out; subst eo20; obtain ⟨Ao21, co21, eo21⟩ := Kd.R_slice HO457.out; subst eo21) | ((with_reducible refine gc 6 rfl ?_); refine gl (some 14) Try.func6 #[.agg #[.slice Ao20 t452.length co20, .slice Ao21 t455.length co21]] rfl ?_; (with_reducible refine (spec_UnitOk.calls k _ _ t452 _ _ t455 t458 _ ?side1 ?side2 ?side3 ?side4 A8.out).mono ?_); (case side1 => repeat (first | exact (Kd.S_reads' HO454.out).2.2 | (with_reducible refine Kd.C_alloc ?_ _) | (with_reducible refine Kd.C_drewN ?_ _) | (with_reducible refine Kd.C_drew ?_))); (case side2 => exact (Kd.S_reads' HO454.out).2.1); (case side3 => repeat (first | exact (Kd.R_reads' HO457.out).2.2 | (with_reducible refine Kd.C_alloc ?_ _) | (with_reducible refine Kd.C_drewN ?_ _) | (with_reducible refine Kd.C_drew ?_))); (case side4 => exact (Kd.R_reads' HO457.out).2.1); rintro e w22 ⟨rfl, hb⟩; refine ⟨_, rfl, ?_⟩; replace HO454 := Aside0.mk (Kd.S_below (by (with_reducible repeat (first | apply Kd.S_alloc | apply Kd.S_drewN | apply Kd.S_drew)); exact HO454.out) hb); replace HO457 := Aside0.mk (Kd.R_below (by (with_reducible repeat (first | apply Kd.R_alloc | apply Kd.R_drewN | apply Kd.R_drew)); exact HO457.out) hb); replace BK450 := kb BK450 hb; replace HB := hs HB hb; (try clear hb); obtain ⟨_,_,_,_⟩ := cf2 BK450) | ((with_reducible refine gc 7 rfl ?_); refine gl (some 16) Try.func7 #[.agg #[.slice A0_0 l0_0.length c0_0, .slice A0_1 l0_1.length c0_1]] rfl ?_; (with_reducible refine (laws_toUnit.calls k _ _ l0_0 _ _ l0_1 t459 t462 _ ?side1 ?side2 ?side3 ?side4 A9.out).mono ?_); (case side1 => exact cb HR0_0.out); (case side2 => exact HC0_0.out); (case side3 => exact cb HR0_1.out); (case side4 => exact HC0_1.out); rintro e w24 ⟨v460, v463, rfl, ho0, ho1, hb⟩; refine ⟨_, rfl, ?_⟩; have HO461 := Aside0.mk (Kd.S_lower (Kd.S_new' ho0 (Kd.S_lt (by (with_reducible repeat (first | apply Kd.S_alloc | apply Kd.S_drewN | apply Kd.S_drew)); exact HO454.out))) (below_size bl)); have HO464 := Aside0.mk (Kd.R_lower (Kd.R_new' ho1 (Kd.R_lt (by (with_reducible repeat (first | apply Kd.R_alloc | apply Kd.R_drewN | apply Kd.R_drew)); exact HO457.out))) (below_size bl)); replace HO454 := Aside0.mk (Kd.S_elder' (by (with_reducible repeat (first | apply Kd.S_alloc | apply Kd.S_drewN | apply Kd.S_drew)); exact HO454.out) (Kd.S_base ho0) hb); replace HO457 := Aside0.mk (Kd.R_elder' (by (with_reducible repeat (first | apply Kd.R_alloc | apply Kd.R_drewN | apply Kd.R_drew)); exact HO457.out) (Kd.R_base ho1) hb); replace BK450 := kb BK450 hb; replace HB := hs HB hb; (try clear hb); (try clear ho0); (try clear ho1)) | ((with_reducible refine gd 5 rfl ?_); refine bx 5 #[.slice none 0 0, .slice none 0 0] 31 ?_; intro gb465 hg w25 hbox hb; have BK465 := Aside0.mk hbox; have GW465 := hz HB hg; have GE465 := hz HB hg; have NB450_465 := nl BK450 hg; have NB465_450 := ng BK450 hg; replace HO454 := Aside0.mk (Kd.S_below (by (with_reducible repeat (first | apply Kd.S_alloc | apply Kd.S_drewN | apply Kd.S_drew)); exact HO454.out) hb); replace HO457 := Aside0.mk (Kd.R_below (by (with_reducible repeat (first | apply Kd.R_alloc | apply Kd.R_drewN | apply Kd.R_drew)); exact HO457.out) hb); replace HO461 := Aside0.mk (Kd.S_below (by (with_reducible repeat (first | apply Kd.S_alloc | apply Kd.S_drewN | apply Kd.S_drew)); exact HO461.out) hb); replace HO464 := Aside0.mk (Kd.R_below (by (with_reducible repeat (first | apply Kd.R_alloc | apply Kd.R_drewN | apply Kd.R_drew)); exact HO464.out) hb); replace BK450 := kb BK450 hb; replace HB := hs HB hb; clear hb hbox hg; obtain ⟨Ao26, co26, eo26⟩ := Kd.S_slice HO461.out; subst eo26; have hnb27 := NB465_450.out; have hnc27 := NB450_465.out; obtain ⟨_,_,_,_⟩ := cf2 BK465; obtain ⟨Ao29, co29, eo29⟩ := Kd.R_slice HO464.out; subst eo29) | ((with_reducible refine gc 8 rfl ?_); refine gl (some 18) Try.func8 #[.agg #[.slice Ao26 t459.length co26, .slice Ao29 t462.length co29]] rfl ?_; (with_reducible refine (impl_UnitOk.calls k _ _ t459 _ _ t462 t466 _ ?side1 ?side2 ?side3 ?side4 A10.out).mono ?_); (case side1 => refine (Kd.S_reads' (e := 76) (base := w.heap.size) (ok := fun k_ => (True ∧ some k_ ≠ (.slice Ao20 t452.length co20 : Value).ownBlock)) (n := t459.length) (c := co26) ?_).2.2; exact (by (with_reducible repeat (first | apply Kd.S_alloc | apply Kd.S_drewN | apply Kd.S_drew)); exact (Kd.S_mono (Kd.S_far (p := ⟨gb465, 1, none⟩) (Kd.S_far (p := ⟨gb465, 0, none⟩) (Kd.S_types HO461.out BK465.out (by decide)) (fun _ hk => hk.2) (.slice Ao26 t459.length co26)) (fun _ hk => hk.2) (.slice Ao29 t462.length co29)) (fun _ h_ => h_.1)))); (case side2 => exact (Kd.S_reads' HO461.out).2.1); (case side3 => refine (Kd.R_reads' (e := 46) (base := w.heap.size) (ok := fun k_ => (True ∧ some k_ ≠ (.slice Ao21 t455.length co21 : Value).ownBlock)) (n := t462.length) (c := co29) ?_).2.2; exact (by (with_reducible repeat (first | apply Kd.R_alloc | apply Kd.R_drewN | apply Kd.R_drew)); exact (Kd.R_mono (Kd.R_far (p := ⟨gb465, 1, none⟩) (Kd.R_far (p := ⟨gb465, 0, none⟩) (Kd.R_types HO464.out BK465.out (by decide)) (fun _ hk => hk.2) (.slice Ao26 t459.length co26)) (fun _ hk => hk.2) (.slice Ao29 t462.length co29)) (fun _ h_ => h_.1)))); (case side4 => exact (Kd.R_reads' HO464.out).2.1); rintro e w30 ⟨rfl, hb⟩; refine ⟨_, rfl, ?_⟩; replace HO454 := Aside0.mk (Kd.S_below (by (with_reducible repeat (first | apply Kd.S_alloc | apply Kd.S_drewN | apply Kd.S_drew)); exact (Kd.S_mono (Kd.S_far (p := ⟨gb465, 1, none⟩) (Kd.S_far (p := ⟨gb465, 0, none⟩) (Kd.S_types HO454.out BK465.out (by decide)) (fun _ hk => hk.2) (.slice Ao26 t459.length co26)) (fun _ hk => hk.2) (.slice Ao29 t462.length co29)) (fun _ h_ => h_.1))) hb); replace HO457 := Aside0.mk (Kd.R_below (by (with_reducible repeat (first | apply Kd.R_alloc | apply Kd.R_drewN | apply Kd.R_drew)); exact (Kd.R_mono (Kd.R_far (p := ⟨gb465, 1, none⟩) (Kd.R_far (p := ⟨gb465, 0, none⟩) (Kd.R_types HO457.out BK465.out (by decide)) (fun _ hk => hk.2) (.slice Ao26 t459.length co26)) (fun _ hk => hk.2) (.slice Ao29 t462.length co29)) (fun _ h_ => h_.1))) hb); replace HO461 := Aside0.mk (Kd.S_below (by (with_reducible repeat (first | apply Kd.S_alloc | apply Kd.S_drewN | apply Kd.S_drew)); exact (Kd.S_mono (Kd.S_far (p := ⟨gb465, 1, none⟩) (Kd.S_far (p := ⟨gb465, 0, none⟩) (Kd.S_types HO461.out BK465.out (by decide)) (fun _ hk => hk.2) (.slice Ao26 t459.length co26)) (fun _ hk => hk.2) (.slice Ao29 t462.length co29)) (fun _ h_ => h_.1))) hb); replace HO464 := Aside0.mk (Kd.R_below (by (with_reducible repeat (first | apply Kd.R_alloc | apply Kd.R_drewN | apply Kd.R_drew)); exact (Kd.R_mono (Kd.R_far (p := ⟨gb465, 1, none⟩) (Kd.R_far (p := ⟨gb465, 0, none⟩) (Kd.R_types HO464.out BK465.out (by decide)) (fun _ hk => hk.2) (.slice Ao26 t459.length co26)) (fun _ hk => hk.2) (.slice Ao29 t462.length co29)) (fun _ h_ => h_.1))) hb); replace BK450 := kq BK450 hb; replace BK465 := kp gb465 #[.slice Ao26 t459.length co26, .slice Ao29 t462.length co29] 31 hb; replace HB := hs HB hb; (try clear hb); (try clear hk)))
    replace HO454 := Aside0.mk (Kd.S_drew HO454.out)
    replace HO457 := Aside0.mk (Kd.R_drew HO457.out)
    replace HO461 := Aside0.mk (Kd.S_drew HO461.out)
    replace HO464 := Aside0.mk (Kd.R_drew HO464.out)
    replace BK450 := Aside0.mk (blk_drew BK450.out)
    replace BK465 := Aside0.mk (blk_drew BK465.out)
    replace HB := Aside0.mk (below_drew1 HB.out)
    refine start_ (n := 5) (S := fun w' => w'.cell? ⟨gb465, 0, none⟩ = some (.slice Ao26 t459.length co26) ∧ w'.cell? ⟨gb465, 1, none⟩ = some (.slice Ao29 t462.length co29) ∧ w'.cell? ⟨gb450, 0, none⟩ = some (.slice A0_0 l0_0.length c0_0) ∧ w'.cell? ⟨gb450, 1, none⟩ = some (.slice A0_1 l0_1.length c0_1)) (ds := []) #[false, false, false, false, false] (by kernel_rfl) rfl rfl ⟨(blk_cell BK465.out 0).trans rfl, (blk_cell BK465.out 1).trans rfl, (blk_cell BK450.out 0).trans rfl, (blk_cell BK450.out 1).trans rfl⟩ (fun hHeld => ?_)
    generalize w30.drew = w31 at HO454 HO457 HO461 HO464 BK450 BK465 HB hHeld ⊢
    refine take_ (i := 0) (N := some 22) (v := ?_) (a' := ?_) #[true, false, false, false, false] rfl rfl (by kernel_rfl) (fun _ _ _ h => h) (Or.inl ⟨by rfl, ?_⟩) hHeld ?_ ?_
    rotate_left
    ·rintro w' ⟨s0, s1, s2, s3⟩
     go_simp
     with_reducible rfl
    rotate_left
    ·simp only [Act.put, List.setIfInBounds_toArray, List.set_cons_zero, List.set_cons_succ, i64_w, i32_w]
     rfl
    refine take_ (i := 1) (N := some 23) (v := ?_) (a' := ?_) #[true, true, false, false, false] rfl rfl (by kernel_rfl) (fun _ _ _ h => h) (Or.inl ⟨by rfl, ?_⟩) hHeld ?_ ?_
    rotate_left
    ·rintro w' ⟨s0, s1, s2, s3⟩
     go_simp
     with_reducible rfl
    rotate_left
    ·simp only [Act.put, List.setIfInBounds_toArray, List.set_cons_zero, List.set_cons_succ, i64_w, i32_w]
     rfl
    refine one_ (i := 2) (N := some 24) #[true, true, true, false, false] rfl rfl (by kernel_rfl) (by decide) (fun K hK => ?_)
    refine gs Try.func7 #[.agg #[.slice A0_0 l0_0.length c0_0, .slice A0_1 l0_1.length c0_1]] rfl rfl ?_
    with_reducible refine (laws_toUnit.calls k _ _ l0_0 _ _ l0_1 t467 t470 _ ?side1 ?side2 ?side3 ?side4 A12.out).mono ?_
    (case side1 => exact cb HR0_0.out)
    (case side2 => exact HC0_0.out)
    (case side3 => exact cb HR0_1.out)
    (case side4 => exact HC0_1.out)
    rintro e w32 ⟨v468, v471, rfl, ho0, ho1, hb⟩
    refine ⟨_, rfl, ?_⟩
    have HO469 := Aside0.mk (Kd.S_lower (Kd.S_new' (Kd.S_new' ho0 (Kd.S_lt (by (with_reducible repeat (first | apply Kd.S_alloc | apply Kd.S_drewN | apply Kd.S_drew)); exact HO454.out))) (Kd.S_lt (by (with_reducible repeat (first | apply Kd.S_alloc | apply Kd.S_drewN | apply Kd.S_drew)); exact HO461.out))) (below_size bl))
    have HO472 := Aside0.mk (Kd.R_lower (Kd.R_new' (Kd.R_new' ho1 (Kd.R_lt (by (with_reducible repeat (first | apply Kd.R_alloc | apply Kd.R_drewN | apply Kd.R_drew)); exact HO457.out))) (Kd.R_lt (by (with_reducible repeat (first | apply Kd.R_alloc | apply Kd.R_drewN | apply Kd.R_drew)); exact HO464.out))) (below_size bl))
    replace HO454 := Aside0.mk (Kd.S_elder' (by (with_reducible repeat (first | apply Kd.S_alloc | apply Kd.S_drewN | apply Kd.S_drew)); exact HO454.out) (Kd.S_base ho0) hb)
    replace HO457 := Aside0.mk (Kd.R_elder' (by (with_reducible repeat (first | apply Kd.R_alloc | apply Kd.R_drewN | apply Kd.R_drew)); exact HO457.out) (Kd.R_base ho1) hb)
    replace HO461 := Aside0.mk (Kd.S_elder' (by (with_reducible repeat (first | apply Kd.S_alloc | apply Kd.S_drewN | apply Kd.S_drew)); exact HO461.out) (Kd.S_base ho0) hb)
    replace HO464 := Aside0.mk (Kd.R_elder' (by (with_reducible repeat (first | apply Kd.R_alloc | apply Kd.R_drewN | apply Kd.R_drew)); exact HO464.out) (Kd.R_base ho1) hb)
    replace BK450 := kb BK450 hb
    replace BK465 := kb BK465 hb
    replace HB := hs HB hb
    (try clear hb)
    (try clear hb2)
    (try clear hk)
    (try clear hi)
    (try clear ho0)
    (try clear ho1)
    obtain ⟨Ao33, co33, eo33⟩ := Kd.S_slice HO469.out
    (first | subst eo33 | (injection eo33 with f1_ f2_ f3_; have f4_ := f1_.symm; have f5_ := f3_.symm; clear f1_ f2_ f3_; subst f4_; subst f5_))
    obtain ⟨Ao34, co34, eo34⟩ := Kd.R_slice HO472.out
    (first | subst eo34 | (injection eo34 with f1_ f2_ f3_; have f4_ := f1_.symm; have f5_ := f3_.symm; clear f1_ f2_ f3_; subst f4_; subst f5_))
    refine hK.out _ _ ⟨(blk_cell BK465.out 0).trans rfl, (blk_cell BK465.out 1).trans rfl, (blk_cell BK450.out 0).trans rfl, (blk_cell BK450.out 1).trans rfl⟩ (fun hHeld => ?_)
    clear hK K
    refine no 24 ?_
    refine one_ (i := 3) (N := some 25) #[true, true, true, true, false] rfl rfl (by kernel_rfl) (by decide) (fun K hK => ?_)
    refine gs Try.func9 #[.agg #[.slice Ao26 t459.length co26, .slice Ao29 t462.length co29], .agg #[.slice Ao33 t467.length co33, .slice Ao34 t470.length co34]] rfl rfl ?_
    with_reducible refine (laws_eqUnit.calls k _ _ t459 _ _ t462 _ _ t467 _ _ t470 true _ ?side1 ?side2 ?side3 ?side4 ?side5 ?side6 ?side7 ?side8 A13.out).mono ?_
    (case side1 => repeat (first | exact (Kd.S_reads' HO461.out).2.2 | (with_reducible refine Kd.C_alloc ?_ _) | (with_reducible refine Kd.C_drewN ?_ _) | (with_reducible refine Kd.C_drew ?_)))
    (case side2 => exact (Kd.S_reads' HO461.out).2.1)
    (case side3 => repeat (first | exact (Kd.R_reads' HO464.out).2.2 | (with_reducible refine Kd.C_alloc ?_ _) | (with_reducible refine Kd.C_drewN ?_ _) | (with_reducible refine Kd.C_drew ?_)))
    (case side4 => exact (Kd.R_reads' HO464.out).2.1)
    (case side5 => repeat (first | exact (Kd.S_reads' HO469.out).2.2 | (with_reducible refine Kd.C_alloc ?_ _) | (with_reducible refine Kd.C_drewN ?_ _) | (with_reducible refine Kd.C_drew ?_)))
    (case side6 => exact (Kd.S_reads' HO469.out).2.1)
    (case side7 => repeat (first | exact (Kd.R_reads' HO472.out).2.2 | (with_reducible refine Kd.C_alloc ?_ _) | (with_reducible refine Kd.C_drewN ?_ _) | (with_reducible refine Kd.C_drew ?_)))
    (case side8 => exact (Kd.R_reads' HO472.out).2.1)
    rintro e w35 ⟨rfl, hb⟩
    refine ⟨_, rfl, ?_⟩
    replace HO454 := Aside0.mk (Kd.S_below (by (with_reducible repeat (first | apply Kd.S_alloc | apply Kd.S_drewN | apply Kd.S_drew)); exact HO454.out) hb)
    replace HO457 := Aside0.mk (Kd.R_below (by (with_reducible repeat (first | apply Kd.R_alloc | apply Kd.R_drewN | apply Kd.R_drew)); exact HO457.out) hb)
    replace HO461 := Aside0.mk (Kd.S_below (by (with_reducible repeat (first | apply Kd.S_alloc | apply Kd.S_drewN | apply Kd.S_drew)); exact HO461.out) hb)
    replace HO464 := Aside0.mk (Kd.R_below (by (with_reducible repeat (first | apply Kd.R_alloc | apply Kd.R_drewN | apply Kd.R_drew)); exact HO464.out) hb)
    replace HO469 := Aside0.mk (Kd.S_below (by (with_reducible repeat (first | apply Kd.S_alloc | apply Kd.S_drewN | apply Kd.S_drew)); exact HO469.out) hb)
    replace HO472 := Aside0.mk (Kd.R_below (by (with_reducible repeat (first | apply Kd.R_alloc | apply Kd.R_drewN | apply Kd.R_drew)); exact HO472.out) hb)
    replace BK450 := kb BK450 hb
    replace BK465 := kb BK465 hb
    replace HB := hs HB hb
    (try clear hb)
    (try clear hb2)
    (try clear hk)
    (try clear hi)
    refine hK.out _ _ ⟨(blk_cell BK465.out 0).trans rfl, (blk_cell BK465.out 1).trans rfl, (blk_cell BK450.out 0).trans rfl, (blk_cell BK450.out 1).trans rfl⟩ (fun hHeld => ?_)
    clear hK K
    refine no 25 ?_
    refine pure_ (i := 4) (N := some 26) (v := ?_) (a' := ?_) #[true, true, true, true, true] rfl rfl (by kernel_rfl) (fun _ _ _ h => h) (Or.inl ⟨by rfl, ?_⟩) ?_ ?_
    rotate_left
    ·intro w'
     go_simp
     with_reducible rfl
    rotate_left
    ·simp only [Act.put, List.setIfInBounds_toArray, List.set_cons_zero, List.set_cons_succ, i64_w, i32_w]
     rfl
    refine done_ (by kernel_rfl) ?_
    try go_wp2
    go_ret
    exact fin
   ·replace c14 := Bool.eq_false_iff.mpr c14
    subst c14
    replace H := ie H
    obtain rfl := Option.some.inj H
    exact absurd hr_ (by decide)
end Go.Proofs.Ytedodaifpekahaa.P

end
section

namespace Go.Proofs.Ytedodaifpekahaa.Open
open Go Go.RowKit Go.ChangeShapes Go.WideShapes Go.Deep Go.Proofs.YtedodaifpekahaaW.PrintWords
set_option linter.unusedVariables false
set_option linter.unusedSectionVars false
theorem list_of {α : Type} {n : Nat} {p : Nat → α → Prop} (h : ∀ i, i < n → ∃ x, p i x) : ∃ xs : List α, xs.length = n ∧ ∀ i y, xs[i]? = some y → p i y := by
  induction n with
  | zero => exact ⟨[], rfl, fun i y hy => by simp at hy⟩
  | succ q ih =>
    obtain ⟨xs, hl, hxs⟩ := ih (fun i hi => h i (by omega))
    obtain ⟨z, hz⟩ := h q (by omega)
    refine ⟨xs ++ [z], by simp [hl], fun i y hy => ?_⟩
    by_cases hi : i < xs.length
    · rw [List.getElem?_append_left hi] at hy
      exact hxs i y hy
    · rw [List.getElem?_append_right (by omega)] at hy
      have hi2 : i = xs.length := by
        have := (List.getElem?_eq_some_iff.1 hy).1
        simp at this
        omega
      subst hi2
      simp at hy
      subst hy
      rw [hl]
      exact hz
section
variable {H : Type} {enc : TypeId × Value → H} {P : Program} {w : World} {base : Nat} {spare : Nat → Bool} {held : Bool}
def Opens {H : Type} (enc : TypeId × Value → H) (P : Program) (w : World) (base : Nat) (spare : Nat → Bool) (held : Bool) {α : Type} (t : TypeId) (d : Kd α) (wf : α → Prop) : Prop :=
  ∀ (fuel : Nat) (cs : List Value) (x : DataW H × List MemPlace), DataW.trod enc P w base spare held fuel t cs = some x → ∃ a, d.K w a cs ∧ wf a
theorem opens_int {k : IntKind} {t : TypeId} (hu : P.underlying t = some (.int k)) : Opens enc P w base spare held t (Kd.int k) (fun n => (Lit.int k n).wf = true) := by
  intro fuel cs x h
  obtain ⟨n, rfl, _, hw⟩ := DataW.trod_int hu h
  exact ⟨n, rfl, hw⟩
theorem opens_bool {t : TypeId} (hu : P.underlying t = some .bool) : Opens enc P w base spare held t Kd.bool (fun _ => True) := by
  intro fuel cs x h
  obtain ⟨b, rfl, _⟩ := DataW.trod_bool hu h
  exact ⟨b, rfl, trivial⟩
theorem cells_get {base n : Nat} {a : Addr} {cs : List Value} (h : w.cells? base a n = some cs) : cs.length = n ∧ ∀ i u, cs[i]? = some u → w.cell? (a.add i) = some u := by
  obtain ⟨hb, hl, hc⟩ := World.cells?_some h
  refine ⟨hl, fun i u hu => ?_⟩
  have hi : i < cs.length := (List.getElem?_eq_some_iff.1 hu).1
  rw [hc i (by omega), hu]
theorem opens_slice {α : Type} {d : Kd α} {wf : α → Prop} {t e : TypeId} (hu : P.underlying t = some (.slice e)) (hc : P.cellsOf e = d.sz) (ho : Opens enc P w base spare held e d wf) :
    Opens enc P w base spare held t (Kd.slice e d) (fun xs => xs.length ≤ 9223372036854775807 ∧ ∀ x ∈ xs, wf x) := by
  intro fuel cs x h
  rcases open_slice hu h with ⟨rfl, _⟩ | ⟨a, len, cap, m, n, D, Pl, rfl, _, hlc, hcm, hm, _, hel⟩
  · exact ⟨[], ⟨none, 0, rfl, Nat.le_refl 0, rfl, Nat.zero_le _, fun hp => absurd hp (Nat.lt_irrefl 0)⟩, Nat.zero_le _, fun x hx => by cases hx⟩
  · have hlm : len ≤ m := by rw [hm]; split <;> omega
    obtain ⟨xs, hxl, hxs⟩ := list_of (p := fun i y => ∃ c, w.cells? base (a.add (i * P.cellsOf e)) (P.cellsOf e) = some c ∧ d.K w y c ∧ wf y) (fun i hi => by
      obtain ⟨cs', h1, h2⟩ := hel i (by omega)
      obtain ⟨y, hy, hw⟩ := ho n cs' _ h2
      exact ⟨y, cs', h1, hy, hw⟩ : ∀ i, i < len → _)
    have hmax : len ≤ 9223372036854775807 := by unfold maxLen at hcm; omega
    subst hxl
    refine ⟨xs, ⟨some a, cap, rfl, hlc, rfl, hmax, fun _ => ⟨a, rfl, fun j p hj => ?_⟩⟩, hmax, fun y hy => ?_⟩
    · obtain ⟨c, h1, h2, _⟩ := hxs j p hj
      rw [hc] at h1
      obtain ⟨h3, h4⟩ := cells_get h1
      exact ⟨c, h3, h2, fun i u hu => by rw [← Go.Deep.add_add]; exact h4 i u hu⟩
    · obtain ⟨i, hi⟩ := List.getElem?_of_mem hy
      obtain ⟨_, _, _, h3⟩ := hxs i y hi
      exact h3
def OpensF {H : Type} (enc : TypeId × Value → H) (P : Program) (w : World) (base : Nat) (spare : Nat → Bool) (held : Bool) {β : Type} (fs : List Field) (off : Nat) (d : Kd β) (wf : β → Prop) : Prop :=
  ∀ (fuel : Nat) (cs : List Value), cs.length = off + d.sz → (∀ f ∈ fs, ∃ y, DataW.trod enc P w base spare held fuel f.type ((cs.drop f.offset).take (P.cellsOf f.type)) = some y) → ∃ b, d.K w b (cs.drop off) ∧ wf b
theorem opensF_one {α : Type} {d : Kd α} {wf : α → Prop} {f : Field} {off : Nat} (ho : f.offset = off) (hc : P.cellsOf f.type = d.sz) (h : Opens enc P w base spare held f.type d wf) : OpensF enc P w base spare held [f] off d wf := by
  intro fuel cs hl hf
  obtain ⟨y, hy⟩ := hf f (by simp)
  rw [ho, hc, List.take_of_length_le (by simp; omega)] at hy
  exact h fuel _ _ hy
theorem opensF_cons {α β : Type} {d : Kd α} {d2 : Kd β} {wf : α → Prop} {wf2 : β → Prop} {f : Field} {fs : List Field} {off off2 : Nat} (ho : f.offset = off) (hc : P.cellsOf f.type = d.sz) (h2 : off2 = off + d.sz)
    (h : Opens enc P w base spare held f.type d wf) (hr : OpensF enc P w base spare held fs off2 d2 wf2) : OpensF enc P w base spare held (f :: fs) off (Kd.pair d d2) (fun p => wf p.1 ∧ wf2 p.2) := by
  intro fuel cs hl hf
  have hl' : cs.length = off + (d.sz + d2.sz) := hl
  obtain ⟨y, hy⟩ := hf f (by simp)
  rw [ho, hc] at hy
  obtain ⟨a, ha, hwa⟩ := h fuel _ _ hy
  obtain ⟨b, hb, hwb⟩ := hr fuel cs (by omega) (fun g hg => hf g (by simp [hg]))
  refine ⟨(a, b), ⟨_, _, ?_, ha, hb⟩, hwa, hwb⟩
  rw [h2, ← List.drop_drop]
  exact (List.take_append_drop d.sz (cs.drop off)).symm
theorem opens_struct {α β : Type} {d : Kd β} {wf : β → Prop} {t : TypeId} {fs : Array Field} (hu : P.underlying t = some (.struct fs)) (hc : P.cellsOf t = d.sz) (h : OpensF enc P w base spare held fs.toList 0 d wf) (f : α → β) (g : β → α) (hfg : ∀ b, f (g b) = b) :
    Opens enc P w base spare held t (Kd.iso d f) (fun a => wf (f a)) := by
  intro fuel cs x hx
  obtain ⟨xs, n, _, _, hl, hxl, hfs⟩ := DataW.trod_struct hu hx
  obtain ⟨b, hb, hwb⟩ := h n cs (by omega) (fun q hq => by
    obtain ⟨i, hi⟩ := List.getElem?_of_mem hq
    rw [Array.getElem?_toList] at hi
    have hlt : i < xs.length := by rw [hxl]; exact (Array.getElem?_eq_some_iff.1 hi).1
    rw [hfs i q hi, List.getElem?_eq_getElem hlt]
    exact ⟨_, rfl⟩)
  exact ⟨g b, by show d.K w (f (g b)) cs; rw [hfg]; exact hb, by show wf (f (g b)); rw [hfg]; exact hwb⟩
theorem opens_arg {α : Type} {d : Kd α} {wf : α → Prop} {t : TypeId} {v : Value} {x : DataW H} {ps : List MemPlace} (h : DataW.Trod enc P w base spare held t v x ps) (ho : Opens enc P w base spare held t d wf) : ∃ a, d.K w a v.cells.toList ∧ wf a := by
  obtain ⟨fuel, hf⟩ := h
  exact ho fuel _ _ hf
end
end Go.Proofs.Ytedodaifpekahaa.Open

end
section

namespace Go.Proofs.Ytedodaifpekahaa.P
open Go.RowKit Go.Proofs.YtedodaifpekahaaW.PrintWords Go.Proofs.Ytedodaifpekahaa.Open
structure S25 where
  f0 : (List S58)
  f1 : (List S64)
def k25 : Kd S25 := Kd.iso (Kd.pair (Kd.slice 58 k58) (Kd.slice 64 k64)) (fun x : S25 => (x.f0, x.f1))
theorem k25_open {w : World} {x : S25} {cs : List Value} (h : k25.K w x cs) : ∃ A0 c0 A1 c1, cs = [.slice A0 x.f0.length c0, .slice A1 x.f1.length c1] ∧ x.f0.length ≤ c0 ∧ k58.C w A0 x.f0.length x.f0 ∧ x.f1.length ≤ c1 ∧ k64.C w A1 x.f1.length x.f1 := by
  obtain ⟨_, _, rfl, ⟨A0, c0, rfl, l0, g0⟩, ⟨A1, c1, rfl, l1, g1⟩⟩ := h
  exact ⟨A0, c0, A1, c1, rfl, l0, g0, l1, g1⟩
def wfS58 (x : S58) : Prop := ((Lit.int .i64 x.f0).wf = true) ∧ ((x.f1.length ≤ 9223372036854775807 ∧ ∀ y ∈ x.f1, (Lit.int .i64 y).wf = true))
theorem opens58 (H : Type) (enc : TypeId × Value → H) (w : World) (base : Nat) (spare : Nat → Bool) (held : Bool) : Opens enc Try.prog w base spare held 58 k58 wfS58 :=
  opens_struct Try.underlying58 (by kernel_rfl) (opensF_cons rfl (by kernel_rfl) rfl (opens_int Try.underlying3) (opensF_one rfl (by kernel_rfl) (opens_slice Try.underlying41 (by kernel_rfl) (opens_int Try.underlying3)))) (fun x : S58 => (x.f0, x.f1)) (fun p => ⟨p.1, p.2⟩) (fun _ => rfl)
def wfS113 (x : S113) : Prop := ((Lit.int .i64 x.f0).wf = true) ∧ ((Lit.int .i64 x.f1).wf = true) ∧ ((Lit.int .i64 x.f2).wf = true)
theorem opens113 (H : Type) (enc : TypeId × Value → H) (w : World) (base : Nat) (spare : Nat → Bool) (held : Bool) : Opens enc Try.prog w base spare held 113 k113 wfS113 :=
  opens_struct Try.underlying113 (by kernel_rfl) (opensF_cons rfl (by kernel_rfl) rfl (opens_int Try.underlying3) (opensF_cons rfl (by kernel_rfl) rfl (opens_int Try.underlying3) (opensF_one rfl (by kernel_rfl) (opens_int Try.underlying3)))) (fun x : S113 => (x.f0, (x.f1, x.f2))) (fun p => ⟨p.1, p.2.1, p.2.2⟩) (fun _ => rfl)
def wfS111 (x : S111) : Prop := (True) ∧ ((x.f1.length ≤ 9223372036854775807 ∧ ∀ y ∈ x.f1, (Lit.int .i64 y).wf = true)) ∧ ((x.f2.length ≤ 9223372036854775807 ∧ ∀ y ∈ x.f2, (Lit.int .i64 y).wf = true))
theorem opens111 (H : Type) (enc : TypeId × Value → H) (w : World) (base : Nat) (spare : Nat → Bool) (held : Bool) : Opens enc Try.prog w base spare held 111 k111 wfS111 :=
  opens_struct Try.underlying111 (by kernel_rfl) (opensF_cons rfl (by kernel_rfl) rfl (opens_bool Try.underlying4) (opensF_cons rfl (by kernel_rfl) rfl (opens_slice Try.underlying41 (by kernel_rfl) (opens_int Try.underlying3)) (opensF_one rfl (by kernel_rfl) (opens_slice Try.underlying41 (by kernel_rfl) (opens_int Try.underlying3))))) (fun x : S111 => (x.f0, (x.f1, x.f2))) (fun p => ⟨p.1, p.2.1, p.2.2⟩) (fun _ => rfl)
def wfS116 (x : S116) : Prop := ((Lit.int .i64 x.f0).wf = true) ∧ ((Lit.int .i64 x.f1).wf = true) ∧ ((Lit.int .i64 x.f2).wf = true) ∧ ((Lit.int .i64 x.f3).wf = true)
theorem opens116 (H : Type) (enc : TypeId × Value → H) (w : World) (base : Nat) (spare : Nat → Bool) (held : Bool) : Opens enc Try.prog w base spare held 116 k116 wfS116 :=
  opens_struct Try.underlying116 (by kernel_rfl) (opensF_cons rfl (by kernel_rfl) rfl (opens_int Try.underlying3) (opensF_cons rfl (by kernel_rfl) rfl (opens_int Try.underlying3) (opensF_cons rfl (by kernel_rfl) rfl (opens_int Try.underlying3) (opensF_one rfl (by kernel_rfl) (opens_int Try.underlying3))))) (fun x : S116 => (x.f0, (x.f1, (x.f2, x.f3)))) (fun p => ⟨p.1, p.2.1, p.2.2.1, p.2.2.2⟩) (fun _ => rfl)
def wfS64 (x : S64) : Prop := ((Lit.int .i64 x.f0).wf = true) ∧ ((Lit.int .i64 x.f1).wf = true) ∧ ((x.f2.length ≤ 9223372036854775807 ∧ ∀ y ∈ x.f2, (Lit.int .i64 y).wf = true)) ∧ ((Lit.int .i64 x.f3).wf = true) ∧ ((Lit.int .i64 x.f4).wf = true) ∧ ((x.f5.length ≤ 9223372036854775807 ∧ ∀ y ∈ x.f5, wfS113 y)) ∧ ((x.f6.length ≤ 9223372036854775807 ∧ ∀ y ∈ x.f6, wfS111 y)) ∧ ((x.f7.length ≤ 9223372036854775807 ∧ ∀ y ∈ x.f7, wfS116 y))
theorem opens64 (H : Type) (enc : TypeId × Value → H) (w : World) (base : Nat) (spare : Nat → Bool) (held : Bool) : Opens enc Try.prog w base spare held 64 k64 wfS64 :=
  opens_struct Try.underlying64 (by kernel_rfl) (opensF_cons rfl (by kernel_rfl) rfl (opens_int Try.underlying3) (opensF_cons rfl (by kernel_rfl) rfl (opens_int Try.underlying3) (opensF_cons rfl (by kernel_rfl) rfl (opens_slice Try.underlying41 (by kernel_rfl) (opens_int Try.underlying3)) (opensF_cons rfl (by kernel_rfl) rfl (opens_int Try.underlying3) (opensF_cons rfl (by kernel_rfl) rfl (opens_int Try.underlying3) (opensF_cons rfl (by kernel_rfl) rfl (opens_slice Try.underlying60 (by kernel_rfl) (opens113 H enc w base spare held)) (opensF_cons rfl (by kernel_rfl) rfl (opens_slice Try.underlying61 (by kernel_rfl) (opens111 H enc w base spare held)) (opensF_one rfl (by kernel_rfl) (opens_slice Try.underlying62 (by kernel_rfl) (opens116 H enc w base spare held)))))))))) (fun x : S64 => (x.f0, (x.f1, (x.f2, (x.f3, (x.f4, (x.f5, (x.f6, x.f7)))))))) (fun p => ⟨p.1, p.2.1, p.2.2.1, p.2.2.2.1, p.2.2.2.2.1, p.2.2.2.2.2.1, p.2.2.2.2.2.2.1, p.2.2.2.2.2.2.2⟩) (fun _ => rfl)
def wfS25 (x : S25) : Prop := ((x.f0.length ≤ 9223372036854775807 ∧ ∀ y ∈ x.f0, wfS58 y)) ∧ ((x.f1.length ≤ 9223372036854775807 ∧ ∀ y ∈ x.f1, wfS64 y))
theorem opens25 (H : Type) (enc : TypeId × Value → H) (w : World) (base : Nat) (spare : Nat → Bool) (held : Bool) : Opens enc Try.prog w base spare held 25 k25 wfS25 :=
  opens_struct Try.underlying25 (by kernel_rfl) (opensF_cons rfl (by kernel_rfl) rfl (opens_slice Try.underlying22 (by kernel_rfl) (opens58 H enc w base spare held)) (opensF_one rfl (by kernel_rfl) (opens_slice Try.underlying23 (by kernel_rfl) (opens64 H enc w base spare held)))) (fun x : S25 => (x.f0, x.f1)) (fun p => ⟨p.1, p.2⟩) (fun _ => rfl)
end Go.Proofs.Ytedodaifpekahaa.P

end
section

namespace Go.Proofs.Ytedodaifpekahaa.P
open Go.RowKit Go.Proofs.YtedodaifpekahaaW.PrintWords
def laws_FnExactUnitOk.Pure : Prop := ∀ (x0 : S25), (wfS25 x0) → ∃ k, laws_FnExactUnitOk.f k x0.f0 x0.f1 = some true
end Go.Proofs.Ytedodaifpekahaa.P

end
section

namespace Go.Proofs.Ytedodaifpekahaa.Kit
open Go Go.RowKit Go.Proofs.YtedodaifpekahaaW.PrintWords
set_option linter.unusedVariables false
def Evp {α : Type} (g : Nat → Option α) (P : α → Prop) : Prop := ∃ r, Ev g r ∧ P r
theorem Evp.pure {α : Type} {P : α → Prop} (r : α) (h : P r) : Evp (fun _ => some r) P := ⟨r, Ev.now r, h⟩
theorem Evp.bind {α β : Type} {g : Nat → Option α} {f : Nat → α → Option β} {P : α → Prop} {Q : β → Prop} (h : Evp g P) (k : ∀ a, P a → Evp (fun n => f n a) Q) : Evp (fun n => (g n).bind (f n)) Q := by
  obtain ⟨a, ha, hp⟩ := h
  obtain ⟨r, hr, hq⟩ := k a hp
  exact ⟨r, Ev.bind ha hr, hq⟩
theorem Evp.step {α : Type} {g f : Nat → Option α} {P : α → Prop} (h : ∀ k, g (k + 1) = f k) (k : Evp f P) : Evp g P := by
  obtain ⟨r, hr, hp⟩ := k
  exact ⟨r, Ev.step h hr, hp⟩
theorem Evp.congr {α : Type} {g f : Nat → Option α} {P : α → Prop} (h : ∀ k, g k = f k) (k : Evp f P) : Evp g P := by
  obtain ⟨r, hr, hp⟩ := k
  exact ⟨r, Ev.congr h hr, hp⟩
theorem Evp.mono {α : Type} {g : Nat → Option α} {P Q : α → Prop} (h : Evp g P) (hpq : ∀ r, P r → Q r) : Evp g Q := by
  obtain ⟨r, hr, hp⟩ := h
  exact ⟨r, hr, hpq r hp⟩
theorem Evp.yes {α : Type} {c : Prop} [Decidable c] {f g : Nat → Option α} {P : α → Prop} (hc : c) (h : Evp f P) : Evp (fun n => if c then f n else g n) P := by
  simp only [if_pos hc]; exact h
theorem Evp.no {α : Type} {c : Prop} [Decidable c] {f g : Nat → Option α} {P : α → Prop} (hc : ¬ c) (h : Evp g P) : Evp (fun n => if c then f n else g n) P := by
  simp only [if_neg hc]; exact h
theorem Evp.ite {α : Type} {c : Prop} [Decidable c] {f g : Nat → Option α} {P : α → Prop} (h : c → Evp f P) (k : ¬ c → Evp g P) : Evp (fun n => if c then f n else g n) P := by
  by_cases hc : c
  · exact Evp.yes hc (h hc)
  · exact Evp.no hc (k hc)
theorem Ev.of_evp {α : Type} {g : Nat → Option α} {r : α} (h : Evp g (fun x => x = r)) : Ev g r := by
  obtain ⟨x, hx, rfl⟩ := h
  exact hx
theorem Evp.const {α : Type} {o : Option α} {r : α} {P : α → Prop} (h : o = some r) (hp : P r) : Evp (fun _ => o) P := ⟨r, ⟨0, fun _ _ => h⟩, hp⟩
theorem Evp.rounds {α : Type} {g : Nat → Option α} {r : α} (h : Evp g (fun x => x = r)) : ∃ k, g k = some r := (Ev.of_evp h).rounds
theorem Evp.for_ {ρ : Type} {n : Nat} {g : Nat → Nat → Option ρ} {R : Nat → ρ → Prop} (hend : Evp (g n) (R n)) (hstep : ∀ i, i < n → Evp (g (i + 1)) (R (i + 1)) → Evp (g i) (R i)) : ∀ i, i ≤ n → Evp (g i) (R i) := by
  have key : ∀ d i, i + d = n → Evp (g i) (R i) := by
    intro d
    induction d with
    | zero => intro i hi; have : i = n := by omega
              subst this; exact hend
    | succ d ih => intro i hi; exact hstep i (by omega) (ih (i + 1) (by omega))
  intro i hi
  exact key (n - i) i (by omega)
theorem Evp.fors {σ ρ : Type} {n : Nat} {g : Nat → σ → Nat → Option ρ} {I : Nat → σ → Prop} {R : Nat → σ → ρ → Prop} (hend : ∀ s, I n s → Evp (g n s) (R n s))
    (hstep : ∀ i, i < n → (∀ s, I (i + 1) s → Evp (g (i + 1) s) (R (i + 1) s)) → ∀ s, I i s → Evp (g i s) (R i s)) : ∀ i, i ≤ n → ∀ s, I i s → Evp (g i s) (R i s) := by
  have key : ∀ d i, i + d = n → ∀ s, I i s → Evp (g i s) (R i s) := by
    intro d
    induction d with
    | zero => intro i hi; have : i = n := by omega
              subst this; exact hend
    | succ d ih => intro i hi; exact hstep i (by omega) (ih (i + 1) (by omega))
  intro i hi
  exact key (n - i) i (by omega)
theorem drop_at {α : Type} {xs : List α} {i : Nat} (h : i < xs.length) : xs.drop i = xs[i] :: xs.drop (i + 1) := List.drop_eq_getElem_cons h
theorem getD_at {α : Type} {xs : List α} {i : Nat} (h : i < xs.length) (d : α) : xs.getD i d = xs[i] := by
  rw [List.getD_eq_getElem?_getD, List.getElem?_eq_getElem h]; rfl
theorem w64' {i n : Nat} (h : i < n) (hn : n ≤ 9223372036854775807) : wrap64 ((i : Int) + 1) = ((i + 1 : Nat) : Int) := by unfold wrap64; omega
theorem w64 {n : Int} (h0 : -9223372036854775808 ≤ n) (h1 : n ≤ 9223372036854775807) : wrap64 n = n := by unfold wrap64; omega
end Go.Proofs.Ytedodaifpekahaa.Kit

end
section

namespace Go.Proofs.Ytedodaifpekahaa.Kit
open Go Go.RowKit Go.Proofs.YtedodaifpekahaaW.PrintWords Go.Proofs.Ytedodaifpekahaa.P
set_option linter.unusedVariables false
abbrev Cls := S76
def sup (cs : List Cls) (i : Nat) : Int := (cs.getD i z76).f0
def flds (cs : List Cls) (i : Nat) : List Int := (cs.getD i z76).f1
def FieldTy (n : Nat) (t : Int) : Prop := t = 1 ∨ t = 3 ∨ t = 4 ∨ (8 ≤ t ∧ t < 8 + (n : Int))
structure ClsOk (cs : List Cls) : Prop where
  lo : 2 ≤ cs.length
  hi : cs.length ≤ 5
  root : sup cs 0 = -1 ∧ flds cs 0 = []
  fail : sup cs 1 = 0 ∧ flds cs 1 = [1]
  up : ∀ i, 2 ≤ i → i < cs.length → 0 ≤ sup cs i ∧ sup cs i < (i : Int) ∧ (flds cs i).length ≤ 2
  fld : ∀ i, i < cs.length → ∀ t ∈ flds cs i, FieldTy cs.length t
inductive Up (cs : List Cls) : Nat → Nat → Prop
  | refl (a : Nat) : Up cs a a
  | step {a b : Nat} (p : Nat) (hp : sup cs a = (p : Int)) (h : Up cs p b) : Up cs a b
theorem ClsOk.sup_pos {cs : List Cls} (h : ClsOk cs) {i : Nat} (h1 : 1 ≤ i) (h2 : i < cs.length) : 0 ≤ sup cs i ∧ sup cs i < (i : Int) := by
  rcases Nat.lt_or_ge i 2 with h3 | h3
  · have : i = 1 := by omega
    subst this
    rw [h.fail.1]
    decide
  · have := h.up i h3 h2
    exact ⟨this.1, this.2.1⟩
theorem ClsOk.sup_nat {cs : List Cls} (h : ClsOk cs) {i : Nat} (h1 : 1 ≤ i) (h2 : i < cs.length) : ∃ p : Nat, sup cs i = (p : Int) ∧ p < i := by
  obtain ⟨h3, h4⟩ := h.sup_pos h1 h2
  exact ⟨(sup cs i).toNat, by omega, by omega⟩
theorem ClsOk.len2 {cs : List Cls} (h : ClsOk cs) {i : Nat} (h2 : i < cs.length) : (flds cs i).length ≤ 2 := by
  rcases Nat.lt_or_ge i 2 with h3 | h3
  · rcases Nat.lt_or_ge i 1 with h4 | h4
    · have : i = 0 := by omega
      subst this
      rw [h.root.2]; decide
    · have : i = 1 := by omega
      subst this
      rw [h.fail.2]; decide
  · exact (h.up i h3 h2).2.2
theorem Up.le {cs : List Cls} (h : ClsOk cs) {a b : Nat} (hu : Up cs a b) (ha : a < cs.length) : b ≤ a := by
  induction hu with
  | refl a => exact Nat.le_refl _
  | @step a b p hp _ ih =>
    rcases Nat.eq_zero_or_pos a with h0 | h0
    · subst h0
      have := h.root.1
      omega
    · have := h.sup_pos h0 ha
      have := ih (by omega)
      omega
theorem Up.inv {cs : List Cls} {a b : Nat} (hu : Up cs a b) : a = b ∨ ∃ p : Nat, sup cs a = (p : Int) ∧ Up cs p b := by
  cases hu with
  | refl => exact .inl rfl
  | step p hp h => exact .inr ⟨p, hp, h⟩
theorem Up.trans {cs : List Cls} {a b c : Nat} (h1 : Up cs a b) (h2 : Up cs b c) : Up cs a c := by
  induction h1 with
  | refl => exact h2
  | step p hp _ ih => exact .step p hp (ih h2)
theorem Up.root {cs : List Cls} (h : ClsOk cs) : ∀ {a : Nat}, a < cs.length → Up cs a 0 := by
  intro a
  induction a using Nat.strongRecOn with
  | _ a ih =>
    intro ha
    rcases Nat.eq_zero_or_pos a with h0 | h0
    · subst h0; exact .refl 0
    · obtain ⟨p, hp, hlt⟩ := h.sup_nat h0 ha
      exact .step p hp (ih p hlt (by omega))
inductive Flds (cs : List Cls) : Nat → List Int → Prop
  | root : Flds cs 0 []
  | step {c : Nat} {l : List Int} (p : Nat) (hc : c ≠ 0) (hp : sup cs c = (p : Int)) (h : Flds cs p l) : Flds cs c (l ++ flds cs c)
theorem Flds.fn {cs : List Cls} {c : Nat} {l l' : List Int} (h : Flds cs c l) (h' : Flds cs c l') : l = l' := by
  induction h generalizing l' with
  | root =>
    cases h' with
    | root => rfl
    | step p hc _ _ => exact absurd rfl hc
  | step p hc hp _ ih =>
    cases h' with
    | root => exact absurd rfl hc
    | step q _ hq hl =>
      have : p = q := by omega
      subst this
      rw [ih hl]
theorem rdSup {cs : List Cls} (i : Nat) : (rd_T76 cs (i : Int)).f0 = sup cs i := rfl
theorem rdFlds {cs : List Cls} (i : Nat) : (rd_T76 cs (i : Int)).f1 = flds cs i := rfl
theorem rdInt {xs : List Int} {i : Nat} (h : i < xs.length) : rd xs (i : Int) = xs[i] := getD_at h _
def SmallC (cs : List Cls) : Prop := cs.length ≤ 1048576 ∧ ∀ i, i < cs.length → (flds cs i).length ≤ 1048576 ∧ (∀ t ∈ flds cs i, -9223372036854775808 ≤ t ∧ t ≤ 9223372036854775807)
theorem same_of {p : Prop} {a b : Bool} (ha : a = true ↔ p) (hb : b = true ↔ p) : a = b := by
  rw [Bool.eq_iff_iff, ha, hb]
theorem bne_no {a b : Bool} {p : Prop} (ha : a = true ↔ p) (hb : b = true ↔ p) : ¬ ((b != a) = true) := by
  rw [same_of hb ha]; simp
end Go.Proofs.Ytedodaifpekahaa.Kit

end
section

namespace Go.Proofs.Ytedodaifpekahaa.Kit
open Go Go.RowKit Go.Proofs.YtedodaifpekahaaW.PrintWords Go.Proofs.Ytedodaifpekahaa.P
set_option linter.unusedVariables false
theorem in_eq (a lo hi : Int) : spec_l6In.f a lo hi = some (decide (lo ≤ a ∧ a ≤ hi)) := by
  unfold spec_l6In.f
  by_cases h : lo ≤ a <;> simp [h]
theorem kindOf_eq {n : Nat} {t : Int} (hn : n ≤ 1000000000) (h0 : -9223372036854775808 ≤ t) (h1 : t ≤ 9223372036854775807) :
    impl_kindOf.f (n : Int) t = some (if (0 ≤ t ∧ t ≤ 4) ∨ (8 ≤ t ∧ t < 8 + (n : Int)) then t else -1) := by
  unfold impl_kindOf.f
  rw [if_pos ⟨by omega, by omega, h0, h1⟩]
  repeat' split
  all_goals first | omega | (congr 1; omega) | rfl
theorem fieldType_eq {n : Nat} {t : Int} (hn : n ≤ 1000000000) (h0 : -9223372036854775808 ≤ t) (h1 : t ≤ 9223372036854775807) :
    ∃ b, impl_fieldType.f (n : Int) t = some b ∧ (b = true ↔ FieldTy n t) := by
  unfold impl_fieldType.f
  rw [kindOf_eq hn h0 h1, Option.bind_some]
  refine ⟨_, rfl, ?_⟩
  rw [decide_eq_true_iff]
  unfold FieldTy
  split <;> omega
theorem field_eq {cs : List Cls} {t : Int} (hn : cs.length ≤ 1000000000) : ∃ b, spec_l2Field.f cs t = some b ∧ (b = true ↔ FieldTy cs.length t) := by
  unfold spec_l2Field.f FieldTy
  rw [in_eq, w64 (n := 8 + (cs.length : Int)) (by omega) (by omega), w64 (by omega) (by omega)]
  by_cases h1 : t = 1
  · exact ⟨true, by rw [if_pos h1], by simp [h1]⟩
  rw [if_neg h1]
  by_cases h2 : t = 3
  · exact ⟨true, by rw [if_pos h2], by simp [h2]⟩
  rw [if_neg h2]
  by_cases h3 : t = 4
  · exact ⟨true, by rw [if_pos h3], by simp [h3]⟩
  rw [if_neg h3]
  refine ⟨_, rfl, ?_⟩
  simp only [h1, h2, h3, false_or, decide_eq_true_iff]
  omega
theorem impl_isClass_eq (cs : List Cls) (a : Int) : ∃ b, impl_isClass.f cs a = some b ∧ (b = true ↔ 0 ≤ a ∧ a < (cs.length : Int)) := by
  unfold impl_isClass.f
  by_cases h : a ≥ 0
  · rw [if_pos h]; exact ⟨_, rfl, by rw [decide_eq_true_iff]; omega⟩
  · rw [if_neg h]; exact ⟨_, rfl, by simp; omega⟩
def Shp (cs : List Cls) (c : Nat) : Prop := (if c = 0 then sup cs 0 = -1 ∧ (flds cs 0).length = 0 else if c = 1 then sup cs 1 = 0 ∧ flds cs 1 = [1] else 0 ≤ sup cs c ∧ sup cs c < (c : Int) ∧ (flds cs c).length ≤ 2)
theorem shp0 {cs : List Cls} : Shp cs 0 ↔ sup cs 0 = -1 ∧ (flds cs 0).length = 0 := by unfold Shp; rw [if_pos rfl]
theorem shp1 {cs : List Cls} : Shp cs 1 ↔ sup cs 1 = 0 ∧ flds cs 1 = [1] := by unfold Shp; rw [if_neg (by decide), if_pos rfl]
theorem shp2 {cs : List Cls} {c : Nat} (h : 2 ≤ c) : Shp cs c ↔ 0 ≤ sup cs c ∧ sup cs c < (c : Int) ∧ (flds cs c).length ≤ 2 := by unfold Shp; rw [if_neg (by omega), if_neg (by omega)]
def At (cs : List Cls) (c : Nat) : Prop := (∀ t ∈ flds cs c, FieldTy cs.length t) ∧ Shp cs c
theorem clsOk_iff {cs : List Cls} : ClsOk cs ↔ 2 ≤ cs.length ∧ cs.length ≤ 5 ∧ ∀ c, c < cs.length → At cs c := by
  constructor
  · intro h
    refine ⟨h.lo, h.hi, fun c hc => ⟨h.fld c hc, ?_⟩⟩
    rcases Nat.lt_or_ge c 2 with h2 | h2
    · rcases Nat.lt_or_ge c 1 with h1 | h1
      · have : c = 0 := by omega
        subst this
        exact shp0.2 ⟨h.root.1, by rw [h.root.2]; rfl⟩
      · have : c = 1 := by omega
        subst this
        exact shp1.2 h.fail
    · exact (shp2 h2).2 (h.up c h2 hc)
  · intro ⟨h1, h2, h3⟩
    have a0 := shp0.1 (h3 0 (by omega)).2
    have a1 := shp1.1 (h3 1 (by omega)).2
    exact ⟨h1, h2, ⟨a0.1, List.eq_nil_of_length_eq_zero a0.2⟩, a1, fun i hi hl => (shp2 hi).1 (h3 i hl).2, fun i hi => (h3 i hi).1⟩
theorem spec_class {cs : List Cls} (hs : SmallC cs) {c : Nat} (hc : c < cs.length) : Evp (fun k => spec_l2Class.f k cs (c : Int)) (fun r => r = true ↔ At cs c) := by
  unfold spec_l2Class.f
  refine Evp.yes (by omega) (Evp.yes (by omega) ?_)
  rw [rdSup, rdFlds]
  have hl := (hs.2 c hc).1
  have hl0 := hs.1
  have key : ∀ i, i ≤ (flds cs c).length → Evp (fun k => spec_l2Class.l0 k cs (c : Int) (i : Int) (sup cs c) (flds cs c)) (fun r => r = true ↔ (∀ t ∈ (flds cs c).drop i, FieldTy cs.length t) ∧ Shp cs c) := by
    refine Evp.for_ ?_ (fun i hi ih => ?_)
    · refine Evp.step (f := fun k => _) (fun k => by rw [spec_l2Class.l0, in_eq]) (Evp.no (by omega) ?_)
      rw [List.drop_length]
      simp only [List.not_mem_nil, false_implies, implies_true, true_and]
      refine Evp.ite (fun h0 => ?_) (fun h0 => ?_)
      · have : c = 0 := by omega
        subst this
        rw [shp0]
        refine Evp.ite (fun h => Evp.pure _ ?_) (fun h => Evp.pure _ (by simp [h]))
        rw [beq_iff_eq]
        constructor
        · intro h2; exact ⟨h, by omega⟩
        · intro h2; omega
      · refine Evp.ite (fun h1 => ?_) (fun h1 => ?_)
        · have : c = 1 := by omega
          subst this
          rw [shp1]
          refine Evp.ite (fun h => ?_) (fun h => Evp.pure _ (by simp [h]))
          refine Evp.ite (fun h2 => ?_) (fun h2 => Evp.pure _ ?_)
          · refine Evp.yes (by omega) (Evp.pure _ ?_)
            obtain ⟨x, hx⟩ := List.length_eq_one_iff.1 (by omega : (flds cs 1).length = 1)
            rw [hx, show rd [x] 0 = x from rfl, beq_iff_eq]
            simp [h]
          · constructor
            · intro h3; cases h3
            · intro h3; rw [h3.2] at h2; exact absurd rfl h2
        · rw [shp2 (by omega)]
          refine Evp.congr (f := fun k => if 0 ≤ sup cs c ∧ sup cs c ≤ (c : Int) - 1 then some (decide (((flds cs c).length : Int) ≤ 2)) else some false) (fun k => by rw [w64 (n := (c : Int) - 1) (by omega) (by omega), Option.bind_some]; simp only [decide_eq_true_iff]) ?_
          refine Evp.ite (fun h => Evp.pure _ ?_) (fun h => Evp.pure _ ?_)
          · simp only [decide_eq_true_iff]
            omega
          · constructor
            · intro h3; cases h3
            · intro h3; omega
    · obtain ⟨b, hb, hb2⟩ := field_eq (cs := cs) (t := (flds cs c)[i]) (by omega)
      refine Evp.step (f := fun k => _) (fun k => by rw [spec_l2Class.l0, rdInt hi, hb, Option.bind_some]) (Evp.yes (by omega) (Evp.yes (by omega) ?_))
      rw [w64' hi (by omega), drop_at hi]
      refine Evp.ite (fun h => ih.mono fun r hr => ?_) (fun h => Evp.pure _ ?_)
      · rw [hr, List.forall_mem_cons]
        exact ⟨fun h2 => ⟨⟨hb2.1 h, h2.1⟩, h2.2⟩, fun h2 => ⟨h2.1.2, h2.2⟩⟩
      · rw [List.forall_mem_cons]
        exact ⟨fun h2 => (by cases h2), fun h2 => absurd (hb2.2 h2.1.1) h⟩
  exact key 0 (Nat.zero_le _)
theorem spec_classesOk {cs : List Cls} (hs : SmallC cs) : Evp (fun k => spec_ClassesOk.f k cs) (fun r => r = true ↔ ClsOk cs) := by
  have hl0 := hs.1
  unfold spec_ClassesOk.f
  rw [in_eq]
  simp only [Option.bind_some]
  refine Evp.ite (fun h => ?_) (fun h => Evp.pure _ ?_)
  · simp only [decide_eq_true_iff] at h
    have key : ∀ i, i ≤ cs.length → Evp (fun k => spec_ClassesOk.l0 k cs (i : Int)) (fun r => r = true ↔ ∀ c, i ≤ c → c < cs.length → At cs c) := by
      refine Evp.for_ ?_ (fun i hi ih => ?_)
      · refine Evp.step (f := fun k => _) (fun k => by rw [spec_ClassesOk.l0]) (Evp.no (by omega) (Evp.pure _ ?_))
        simp only [true_iff]
        intro c h1 h2; omega
      · refine Evp.step (f := fun k => _) (fun k => by rw [spec_ClassesOk.l0]) (Evp.yes (by omega) ?_)
        refine Evp.bind (spec_class hs hi) fun b hb => ?_
        rw [w64' hi (by omega)]
        refine Evp.ite (fun h1 => ih.mono fun r hr => ?_) (fun h1 => Evp.pure _ ?_)
        · rw [hr]
          constructor
          · intro h2 c h3 h4
            rcases Nat.lt_or_ge i c with h5 | h5
            · exact h2 c h5 h4
            · have : c = i := by omega
              subst this
              exact hb.1 h1
          · intro h2 c h3 h4; exact h2 c (by omega) h4
        · constructor
          · intro h2; cases h2
          · intro h2; exact absurd (hb.2 (h2 i (Nat.le_refl _) hi)) h1
    refine (key 0 (Nat.zero_le _)).mono fun r hr => ?_
    rw [hr, clsOk_iff]
    constructor
    · intro h2; exact ⟨by omega, by omega, fun c hc => h2 c (Nat.zero_le _) hc⟩
    · intro h2 c _ hc; exact h2.2.2 c hc
  · simp only [decide_eq_true_iff] at h
    constructor
    · intro h2; cases h2
    · intro h2; have := h2.lo; have := h2.hi; omega
theorem impl_classesOk {cs : List Cls} (hs : SmallC cs) : Evp (fun k => impl_ClassesOk.f k cs) (fun r => r = true ↔ ClsOk cs) := by
  have hl0 := hs.1
  have no : ∀ {p : Prop}, ¬ p → ((false = true) ↔ p) := fun h => ⟨fun h2 => (by cases h2), fun h2 => absurd h2 h⟩
  have jno : ¬ (2 ≤ cs.length ∧ cs.length ≤ 5) → Evp (fun k => impl_ClassesOk.j0 k cs true) (fun r => r = true ↔ ClsOk cs) := fun h =>
    Evp.step (f := fun k => _) (fun k => by rw [impl_ClassesOk.j0]) (Evp.yes rfl (Evp.pure _ (no fun h2 => h ⟨h2.lo, h2.hi⟩)))
  unfold impl_ClassesOk.f
  refine Evp.ite (fun h => jno (by omega)) (fun h => ?_)
  by_cases h5 : ¬ cs.length ≤ 5
  · rw [decide_eq_true (by omega)]; exact jno (by omega)
  rw [decide_eq_false (by omega)]
  have h2 : 2 ≤ cs.length := by omega

  have loop : (sup cs 0 = -1 ∧ flds cs 0 = []) → (sup cs 1 = 0 ∧ flds cs 1 = [1]) → ∀ i, i ≤ cs.length → Evp (fun k => impl_ClassesOk.l0 k cs cs (cs.length : Int) (i : Int)) (fun r => r = true ↔ ∀ c, i ≤ c → c < cs.length → At cs c) := by
    intro hr hf
    refine Evp.for_ ?_ (fun i hi ih => ?_)
    · refine Evp.step (f := fun k => _) (fun k => by rw [impl_ClassesOk.l0]) (Evp.no (by omega) (Evp.pure _ ?_))
      simp only [true_iff]
      intro c h1 h2; omega
    · have ih2 : At cs i → ∀ r : Bool, (r = true ↔ ∀ c, i + 1 ≤ c → c < cs.length → At cs c) → (r = true ↔ ∀ c, i ≤ c → c < cs.length → At cs c) := by
        intro ha r hr
        rw [hr]
        constructor
        · intro h2 c h3 h4
          rcases Nat.lt_or_ge i c with h5 | h5
          · exact h2 c h5 h4
          · have : c = i := by omega
            subst this
            exact ha
        · intro h2 c h3 h4; exact h2 c (by omega) h4
      have hno : ¬ At cs i → ((false = true) ↔ ∀ c, i ≤ c → c < cs.length → At cs c) := fun h => no fun h2 => h (h2 i (Nat.le_refl _) hi)
      have hl := (hs.2 i hi).1
      have hb := (hs.2 i hi).2

      have fl : Shp cs i →
          ∀ j, j ≤ (flds cs i).length → (∀ t ∈ (flds cs i).take j, FieldTy cs.length t) → Evp (fun k => impl_ClassesOk.l1 k cs cs (cs.length : Int) (i : Int) (flds cs i) ((flds cs i).length : Int) (j : Int)) (fun r => r = true ↔ ∀ c, i ≤ c → c < cs.length → At cs c) := by
        intro hc
        have key : ∀ j, j ≤ (flds cs i).length → ∀ _ : Unit, (∀ t ∈ (flds cs i).take j, FieldTy cs.length t) → Evp (fun k => impl_ClassesOk.l1 k cs cs (cs.length : Int) (i : Int) (flds cs i) ((flds cs i).length : Int) (j : Int)) (fun r => r = true ↔ ∀ c, i ≤ c → c < cs.length → At cs c) := by
          refine Evp.fors (g := fun j (_ : Unit) k => impl_ClassesOk.l1 k cs cs (cs.length : Int) (i : Int) (flds cs i) ((flds cs i).length : Int) (j : Int)) (I := fun j _ => ∀ t ∈ (flds cs i).take j, FieldTy cs.length t) (R := fun _ _ r => r = true ↔ ∀ c, i ≤ c → c < cs.length → At cs c) (fun _ hI => ?_) (fun j hj ihj _ hI => ?_)
          · refine Evp.step (f := fun k => _) (fun k => by rw [impl_ClassesOk.l1]) (Evp.no (by omega) ?_)
            rw [w64' hi (by omega)]
            refine ih.mono (ih2 ⟨?_, hc⟩)
            simpa using hI
          · obtain ⟨b, hb1, hb2⟩ := fieldType_eq (n := cs.length) (t := (flds cs i)[j]) (by omega) (hb _ (List.getElem_mem hj)).1 (hb _ (List.getElem_mem hj)).2
            refine Evp.step (f := fun k => _) (fun k => by rw [impl_ClassesOk.l1, rdInt hj, hb1, Option.bind_some]) (Evp.yes (by omega) (Evp.yes (by omega) (Evp.yes (by omega) ?_)))
            rw [w64' hj (by omega)]
            refine Evp.ite (fun h => ihj () ?_) (fun h => Evp.pure _ (hno ?_))
            · rw [List.take_succ_eq_append_getElem hj]
              intro t ht
              rcases List.mem_append.1 ht with ht | ht
              · exact hI t ht
              · rw [List.mem_singleton.1 ht]; exact hb2.1 h
            · intro ha; exact h (hb2.2 (ha.1 _ (List.getElem_mem hj)))
        exact fun j hj => key j hj ()
      have j4 : ∀ b : Bool, (b = true ↔ 2 ≤ i ∧ ¬ (0 ≤ sup cs i ∧ sup cs i < (i : Int))) → Evp (fun k => impl_ClassesOk.j4 k cs cs (cs.length : Int) (i : Int) b (sup cs i) (flds cs i)) (fun r => r = true ↔ ∀ c, i ≤ c → c < cs.length → At cs c) := by
        intro b hb4
        refine Evp.step (f := fun k => _) (fun k => by rw [impl_ClassesOk.j4]) ?_
        refine Evp.ite (fun h => Evp.pure _ (hno ?_)) (fun h => ?_)
        · intro ha
          have h6 := hb4.1 h
          have := (shp2 h6.1).1 ha.2
          omega
        · have h6 : ¬ (2 ≤ i ∧ ¬ (0 ≤ sup cs i ∧ sup cs i < (i : Int))) := fun h7 => h (hb4.2 h7)
          refine Evp.ite (fun h7 => Evp.pure _ (hno ?_)) (fun h7 => fl ?_ 0 (Nat.zero_le _) (by simp))
          · intro ha
            rcases Nat.lt_or_ge i 2 with h8 | h8
            · rcases Nat.lt_or_ge i 1 with h9 | h9
              · have : i = 0 := by omega
                subst this
                have := (shp0.1 ha.2).2
                omega
              · have : i = 1 := by omega
                subst this
                rw [hf.2] at h7; exact absurd h7 (by decide)
            · have := (shp2 h8).1 ha.2
              omega
          · rcases Nat.lt_or_ge i 2 with h8 | h8
            · rcases Nat.lt_or_ge i 1 with h9 | h9
              · have : i = 0 := by omega
                subst this
                exact shp0.2 ⟨hr.1, by rw [hr.2]; rfl⟩
              · have : i = 1 := by omega
                subst this
                exact shp1.2 hf
            · exact (shp2 h8).2 (by omega)
      refine Evp.step (f := fun k => _) (fun k => by rw [impl_ClassesOk.l0, rdSup, rdFlds]) (Evp.yes (by omega) (Evp.yes (by omega) (Evp.yes (by omega) ?_)))
      refine Evp.ite (fun h => Evp.ite (fun h8 => j4 _ ?_) (fun h8 => j4 _ ?_)) (fun h => j4 _ ?_)
      · simp; omega
      · rw [decide_eq_true_iff]; omega
      · simp; omega
  have done : (sup cs 0 = -1 ∧ flds cs 0 = []) → (sup cs 1 = 0 ∧ flds cs 1 = [1]) → Evp (fun k => impl_ClassesOk.l0 k cs cs (cs.length : Int) 0) (fun r => r = true ↔ ClsOk cs) := by
    intro hr hf
    refine (loop hr hf 0 (Nat.zero_le _)).mono fun r hr2 => ?_
    rw [hr2, clsOk_iff]
    constructor
    · intro h3; exact ⟨by omega, by omega, fun c hc => h3 c (Nat.zero_le _) hc⟩
    · intro h3 c _ hc; exact h3.2.2 c hc
  have j2 : (sup cs 0 = -1 ∧ flds cs 0 = []) → ∀ b : Bool, (b = false ↔ (sup cs 1 = 0 ∧ flds cs 1 = [1])) → Evp (fun k => impl_ClassesOk.j2 k cs b) (fun r => r = true ↔ ClsOk cs) := by
    intro hr b hb
    refine Evp.step (f := fun k => _) (fun k => by rw [impl_ClassesOk.j2]) ?_
    refine Evp.ite (fun h => Evp.pure _ (no fun h3 => ?_)) (fun h => done hr (hb.1 (by simpa using h)))
    have := hb.2 h3.fail
    rw [h] at this; cases this
  have j1 : ∀ b : Bool, (b = false ↔ (sup cs 0 = -1 ∧ flds cs 0 = [])) → Evp (fun k => impl_ClassesOk.j1 k cs b) (fun r => r = true ↔ ClsOk cs) := by
    intro b hb
    refine Evp.step (f := fun k => _) (fun k => by rw [impl_ClassesOk.j1, show (1 : Int) = ((1 : Nat) : Int) from rfl, rdSup, rdFlds]) ?_
    refine Evp.ite (fun h => Evp.pure _ (no fun h3 => ?_)) (fun h => ?_)
    · have := hb.2 h3.root
      rw [h] at this; cases this
    · have hr := hb.1 (by simpa using h)
      refine Evp.yes (by omega) (Evp.ite (fun h1 => Evp.ite (fun h3 => Evp.yes (by omega) (j2 hr _ ?_)) (fun h3 => j2 hr _ ?_)) (fun h1 => j2 hr _ ?_))
      · obtain ⟨x, hx⟩ := List.length_eq_one_iff.1 (by omega : (flds cs 1).length = 1)
        rw [hx, show rd [x] 0 = x from rfl]
        simp [h1]
      · constructor
        · intro h4; cases h4
        · intro h4; rw [h4.2] at h3; exact absurd rfl h3
      · constructor
        · intro h4; cases h4
        · intro h4; exact absurd h4.1 h1
  refine Evp.step (f := fun k => _) (fun k => by rw [impl_ClassesOk.j0, show (0 : Int) = ((0 : Nat) : Int) from rfl, rdSup, rdFlds]) (Evp.no (by decide) (Evp.yes (by omega) ?_))
  refine Evp.ite (fun h1 => j1 _ ?_) (fun h1 => j1 _ ?_)
  · constructor
    · intro h3
      have : (flds cs 0).length = 0 := by simpa using h3
      exact ⟨h1, List.eq_nil_of_length_eq_zero this⟩
    · intro h3; rw [h3.2]; rfl
  · constructor
    · intro h3; cases h3
    · intro h3; exact absurd h3.1 h1
end Go.Proofs.Ytedodaifpekahaa.Kit

end
section

namespace Go.Proofs.Ytedodaifpekahaa.Kit
open Go Go.RowKit Go.Proofs.YtedodaifpekahaaW.PrintWords Go.Proofs.Ytedodaifpekahaa.P
set_option linter.unusedVariables false
theorem iff_no {p : Prop} (h : ¬ p) : (false = true) ↔ p := ⟨fun h2 => (by cases h2), fun h2 => absurd h2 h⟩
theorem iff_yes {p : Prop} (h : p) : (true = true) ↔ p := ⟨fun _ => h, fun _ => rfl⟩
theorem Up.via {cs : List Cls} {a b p : Nat} (hp : sup cs a = (p : Int)) (hne : a ≠ b) : Up cs a b ↔ Up cs p b := by
  constructor
  · intro h
    rcases h.inv with rfl | ⟨q, hq, h2⟩
    · exact absurd rfl hne
    · have : p = q := by omega
      subst this
      exact h2
  · intro h; exact .step p hp h
theorem spec_up {cs : List Cls} (h : ClsOk cs) (b : Nat) : ∀ a : Nat, a < cs.length → Evp (fun k => spec_l2Up.f k cs (a : Int) (b : Int)) (fun r => r = true ↔ Up cs a b) := by
  intro a
  induction a using Nat.strongRecOn with
  | _ a ih =>
    intro ha
    unfold spec_l2Up.f at ih ⊢
    refine Evp.step (f := fun k => _) (fun k => by rw [spec_l2Up.l0, rdSup]) (Evp.ite (fun hab => ?_) (fun hab => Evp.pure _ ?_))
    · obtain ⟨p, hp, hlt⟩ := h.sup_nat (by omega : 1 ≤ a) ha
      refine Evp.yes (by omega) (Evp.yes (by omega) ?_)
      rw [hp]
      exact (ih p hlt (by omega)).mono fun r hr => hr.trans (Up.via hp (by omega)).symm
    · rw [beq_iff_eq]
      constructor
      · intro h2
        have : a = b := by omega
        subst this; exact .refl _
      · intro h2
        have := h2.le h ha
        omega
theorem impl_up {cs : List Cls} (h : ClsOk cs) (b : Nat) : ∀ a : Nat, a < cs.length → Evp (fun k => impl_classUp.f k cs (a : Int) (b : Int)) (fun r => r = true ↔ Up cs a b) := by
  intro a
  induction a using Nat.strongRecOn with
  | _ a ih =>
    intro ha
    unfold impl_classUp.f at ih ⊢
    refine Evp.step (f := fun k => _) (fun k => by rw [impl_classUp.l0, rdSup]) (Evp.yes (by omega) (Evp.ite (fun hab => Evp.pure _ ?_) (fun hab => ?_)))
    · have : a = b := by omega
      subst this
      exact iff_yes (.refl _)
    · refine Evp.yes (by omega) (Evp.yes (by omega) ?_)
      rcases Nat.eq_zero_or_pos a with h0 | h0
      · subst h0
        rw [h.root.1]
        refine Evp.step (f := fun k => _) (fun k => by rw [impl_classUp.l0]) (Evp.no (by omega) (Evp.pure _ (iff_no ?_)))
        intro h2
        have := h2.le h ha
        omega
      · obtain ⟨p, hp, hlt⟩ := h.sup_nat h0 ha
        rw [hp]
        exact (ih p hlt (by omega)).mono fun r hr => hr.trans (Up.via hp (by omega)).symm
def TyOk (n : Nat) (t : Int) : Prop := t = 0 ∨ t = 2 ∨ FieldTy n t
theorem tyOk_iff {n : Nat} {t : Int} : TyOk n t ↔ (0 ≤ t ∧ t ≤ 4) ∨ (8 ≤ t ∧ t < 8 + (n : Int)) := by
  unfold TyOk FieldTy
  omega
theorem kindOf_ty {n : Nat} {t : Int} (hn : n ≤ 1000000000) (h0 : -9223372036854775808 ≤ t) (h1 : t ≤ 9223372036854775807) :
    ∃ r, impl_kindOf.f (n : Int) t = some r ∧ (TyOk n t ∧ r = t ∨ ¬ TyOk n t ∧ r = -1) := by
  refine ⟨_, kindOf_eq hn h0 h1, ?_⟩
  rw [tyOk_iff]
  by_cases h : (0 ≤ t ∧ t ≤ 4) ∨ (8 ≤ t ∧ t < 8 + (n : Int))
  · rw [if_pos h]; exact .inl ⟨h, rfl⟩
  · rw [if_neg h]; exact .inr ⟨h, rfl⟩
theorem spec_typeOk {cs : List Cls} (hs : SmallC cs) (t : Int) : Evp (fun k => spec_TypeOk.f k cs t) (fun r => r = true ↔ ClsOk cs ∧ TyOk cs.length t) := by
  have hl0 := hs.1
  unfold spec_TypeOk.f
  refine Evp.bind (spec_classesOk hs) fun b hb => Evp.ite (fun h => ?_) (fun h => Evp.pure _ (iff_no fun h2 => h (hb.2 h2.1)))
  refine Evp.ite (fun h0 => Evp.pure _ (iff_yes ⟨hb.1 h, .inl h0⟩)) (fun h0 => Evp.ite (fun h2 => Evp.pure _ (iff_yes ⟨hb.1 h, .inr (.inl h2)⟩)) (fun h2 => ?_))
  obtain ⟨c, hc, hc2⟩ := field_eq (cs := cs) (t := t) (by omega)
  simp only [hc, Option.bind_some]
  refine Evp.pure _ (hc2.trans ⟨fun h3 => ⟨hb.1 h, .inr (.inr h3)⟩, fun h3 => ?_⟩)
  rcases h3.2 with h4 | h4 | h4
  · exact absurd h4 h0
  · exact absurd h4 h2
  · exact h4
end Go.Proofs.Ytedodaifpekahaa.Kit

end
section

namespace Go.Proofs.Ytedodaifpekahaa.Kit
open Go Go.RowKit Go.Proofs.YtedodaifpekahaaW.PrintWords Go.Proofs.Ytedodaifpekahaa.P
set_option linter.unusedVariables false
theorem all_step {Q : Nat → Prop} {Z : Prop} {i n : Nat} {r : Bool} (hq : Q i) (hr : r = true ↔ (∀ j, i + 1 ≤ j → j < n → Q j) ∧ Z) : r = true ↔ (∀ j, i ≤ j → j < n → Q j) ∧ Z := by
  rw [hr]
  constructor
  · intro ⟨h2, hz⟩
    refine ⟨fun c h3 h4 => ?_, hz⟩
    rcases Nat.lt_or_ge i c with h5 | h5
    · exact h2 c h5 h4
    · have : c = i := by omega
      subst this
      exact hq
  · intro ⟨h2, hz⟩; exact ⟨fun c h3 h4 => h2 c (by omega) h4, hz⟩
theorem all_stop {Q : Nat → Prop} {Z : Prop} {i n : Nat} (hi : i < n) (hq : ¬ Q i) : (false = true) ↔ (∀ j, i ≤ j → j < n → Q j) ∧ Z := iff_no fun h => hq (h.1 i (Nat.le_refl _) hi)
theorem all_end {Q : Nat → Prop} {Z : Prop} {n : Nat} {r : Bool} (h : r = true ↔ Z) : r = true ↔ (∀ j, n ≤ j → j < n → Q j) ∧ Z := h.trans ⟨fun hz => ⟨fun j h1 h2 => absurd h2 (by omega), hz⟩, fun h => h.2⟩
theorem all_mem {α : Type} {xs : List α} {d : α} {Q : α → Prop} : (∀ j, 0 ≤ j → j < xs.length → Q (xs.getD j d)) ↔ ∀ x ∈ xs, Q x := by
  constructor
  · intro h x hx
    obtain ⟨i, hi, rfl⟩ := List.mem_iff_getElem.1 hx
    have := h i (Nat.zero_le _) hi
    rwa [getD_at hi] at this
  · intro h j _ hj
    rw [getD_at hj]
    exact h _ (List.getElem_mem hj)
def I64 (l : List Int) : Prop := ∀ t ∈ l, -9223372036854775808 ≤ t ∧ t ≤ 9223372036854775807
theorem I64.at {l : List Int} (h : I64 l) {i : Nat} (hi : i < l.length) : -9223372036854775808 ≤ l.getD i 0 ∧ l.getD i 0 ≤ 9223372036854775807 := by
  rw [getD_at hi]; exact h _ (List.getElem_mem hi)
theorem rdN {xs : List Int} (i : Nat) : rd xs (i : Int) = xs.getD i 0 := rfl
def ShOk (cs : List Cls) (n : Int) (b : Bool) (l m : List Int) : Prop :=
  (b = true ∧ (l.length : Int) = n ∧ m.length ≤ 4 ∧ (∀ t ∈ l, TyOk cs.length t) ∧ (∀ t ∈ m, TyOk cs.length t ∧ t ≠ 0)) ∨ (b = false ∧ l.length = 0 ∧ m.length = 0)
theorem spec_shapeOk {cs : List Cls} (hs : SmallC cs) (n : Int) (b : Bool) {l m : List Int} (hl : l.length ≤ 1048576) (hm : m.length ≤ 1048576) :
    Evp (fun k => spec_ShapeOk.f k cs n b l m) (fun r => r = true ↔ ClsOk cs ∧ ShOk cs n b l m) := by
  unfold spec_ShapeOk.f
  refine Evp.bind (spec_classesOk hs) fun c hc => Evp.ite (fun h => ?_) (fun h => Evp.pure _ (iff_no fun h2 => h (hc.2 h2.1)))
  have hok := hc.1 h
  refine Evp.ite (fun hb => ?_) (fun hb => Evp.ite (fun h1 => Evp.pure _ ?_) (fun h1 => Evp.pure _ (iff_no ?_)))
  · have jt : ¬ ShOk cs n b l m → Evp (fun k => spec_ShapeOk.j0 k cs true b l m) (fun r => r = true ↔ ClsOk cs ∧ ShOk cs n b l m) := fun h =>
      Evp.step (f := fun k => _) (fun k => by rw [spec_ShapeOk.j0]) (Evp.yes rfl (Evp.pure _ (iff_no fun h2 => h h2.2)))
    refine Evp.ite (fun h1 => ?_) (fun h1 => jt ?_)
    · by_cases h4 : m.length ≤ 4
      · rw [decide_eq_false (by omega)]
        refine Evp.step (f := fun k => _) (fun k => by rw [spec_ShapeOk.j0]) (Evp.no (by decide) ?_)
        have k1 : ∀ i, i ≤ m.length → Evp (fun k => spec_ShapeOk.l1 k cs (i : Int) b l m) (fun r => r = true ↔ (∀ j, i ≤ j → j < m.length → TyOk cs.length (m.getD j 0) ∧ m.getD j 0 ≠ 0) ∧ True) := by
          refine Evp.for_ ?_ (fun i hi ih => ?_)
          · refine Evp.step (f := fun k => _) (fun k => by rw [spec_ShapeOk.l1]) (Evp.no (by omega) (Evp.pure _ (all_end (iff_yes trivial))))
          · refine Evp.step (f := fun k => _) (fun k => by rw [spec_ShapeOk.l1, rdN]) (Evp.yes (by omega) (Evp.yes (by omega) ?_))
            refine Evp.bind (spec_typeOk hs _) fun d hd => Evp.ite (fun h5 => Evp.ite (fun h6 => Evp.pure _ (all_stop hi fun h7 => h7.2 h6)) (fun h6 => ?_)) (fun h5 => Evp.pure _ (all_stop hi fun h7 => h5 (hd.2 ⟨hok, h7.1⟩)))
            rw [w64' hi (by omega)]
            exact ih.mono fun r hr => all_step (Q := fun j => TyOk cs.length (m.getD j 0) ∧ m.getD j 0 ≠ 0) ⟨(hd.1 h5).2, h6⟩ hr
        have k0 : ∀ i, i ≤ l.length → Evp (fun k => spec_ShapeOk.l0 k cs (i : Int) b l m) (fun r => r = true ↔ (∀ j, i ≤ j → j < l.length → TyOk cs.length (l.getD j 0)) ∧ ((∀ j, 0 ≤ j → j < m.length → TyOk cs.length (m.getD j 0) ∧ m.getD j 0 ≠ 0) ∧ True)) := by
          refine Evp.for_ ?_ (fun i hi ih => ?_)
          · refine Evp.step (f := fun k => _) (fun k => by rw [spec_ShapeOk.l0]) (Evp.no (by omega) ?_)
            exact (k1 0 (Nat.zero_le _)).mono fun r hr => all_end hr
          · refine Evp.step (f := fun k => _) (fun k => by rw [spec_ShapeOk.l0, rdN]) (Evp.yes (by omega) (Evp.yes (by omega) ?_))
            refine Evp.bind (spec_typeOk hs _) fun d hd => Evp.ite (fun h5 => ?_) (fun h5 => Evp.pure _ (all_stop hi fun h7 => h5 (hd.2 ⟨hok, h7⟩)))
            rw [w64' hi (by omega)]
            exact ih.mono fun r hr => all_step (Q := fun j => TyOk cs.length (l.getD j 0)) (hd.1 h5).2 hr
        refine (k0 0 (Nat.zero_le _)).mono fun r hr => hr.trans ?_
        rw [all_mem (Q := fun t => TyOk cs.length t), all_mem (Q := fun t => TyOk cs.length t ∧ t ≠ 0)]
        unfold ShOk
        rw [hb]
        constructor
        · intro h5; exact ⟨hok, .inl ⟨rfl, h1, h4, h5.1, h5.2.1⟩⟩
        · intro h5
          rcases h5.2 with h6 | h6
          · exact ⟨h6.2.2.2.1, h6.2.2.2.2, trivial⟩
          · cases h6.1
      · rw [decide_eq_true (by omega)]
        refine jt ?_
        unfold ShOk
        rw [hb]
        intro h5
        rcases h5 with h5 | h5
        · exact h4 h5.2.2.1
        · cases h5.1
    · unfold ShOk
      rw [hb]
      intro h5
      rcases h5 with h5 | h5
      · exact h1 h5.2.1
      · cases h5.1
  · have hb' : b = false := by simpa using hb
    rw [beq_iff_eq]
    unfold ShOk
    rw [hb']
    constructor
    · intro h2; exact ⟨hok, .inr ⟨rfl, by omega, by omega⟩⟩
    · intro h2
      rcases h2.2 with h3 | h3
      · cases h3.1
      · omega
  · have hb' : b = false := by simpa using hb
    unfold ShOk
    rw [hb']
    intro h2
    rcases h2.2 with h3 | h3
    · cases h3.1
    · omega
theorem impl_shapeOk' {cs : List Cls} (hs : SmallC cs) (n : Int) (b : Bool) {l m : List Int} (hl : l.length ≤ 1048576) (hm : m.length ≤ 1048576) (il : I64 l) (im : I64 m) :
    Evp (fun k => impl_shapeOk.f k cs n b l m) (fun r => r = true ↔ ShOk cs n b l m) := by
  have hl0 := hs.1
  unfold impl_shapeOk.f
  refine Evp.ite (fun hb => ?_) (fun hb => Evp.ite (fun h1 => Evp.pure _ ?_) (fun h1 => Evp.pure _ (iff_no ?_)))
  · have jt : ¬ ShOk cs n b l m → Evp (fun k => impl_shapeOk.j0 k cs true b l m) (fun r => r = true ↔ ShOk cs n b l m) := fun h =>
      Evp.step (f := fun k => _) (fun k => by rw [impl_shapeOk.j0]) (Evp.yes rfl (Evp.pure _ (iff_no h)))
    refine Evp.ite (fun h1 => ?_) (fun h1 => jt ?_)
    · by_cases h4 : m.length ≤ 4
      · rw [decide_eq_false (by omega)]
        refine Evp.step (f := fun k => _) (fun k => by rw [impl_shapeOk.j0]) (Evp.no (by decide) ?_)
        have k1 : ∀ i, i ≤ m.length → Evp (fun k => impl_shapeOk.l1 k cs m (m.length : Int) (i : Int)) (fun r => r = true ↔ (∀ j, i ≤ j → j < m.length → TyOk cs.length (m.getD j 0) ∧ m.getD j 0 ≠ 0) ∧ True) := by
          refine Evp.for_ ?_ (fun i hi ih => ?_)
          · refine Evp.step (f := fun k => _) (fun k => by rw [impl_shapeOk.l1]) (Evp.no (by omega) (Evp.pure _ (all_end (iff_yes trivial))))
          · obtain ⟨q, hq, hq2⟩ := kindOf_ty (n := cs.length) (t := m.getD i 0) (by omega) (im.at hi).1 (im.at hi).2
            refine Evp.step (f := fun k => _) (fun k => by rw [impl_shapeOk.l1, rdN, hq, Option.bind_some]) (Evp.yes (by omega) (Evp.yes (by omega) (Evp.yes (by omega) ?_)))
            refine Evp.ite (fun h6 => Evp.pure _ (all_stop hi fun h7 => h7.2 h6)) (fun h6 => ?_)
            rcases hq2 with ⟨h7, rfl⟩ | ⟨h7, rfl⟩
            · refine Evp.no (by have := tyOk_iff.1 h7; omega) ?_
              rw [w64' hi (by omega)]
              exact ih.mono fun r hr => all_step (Q := fun j => TyOk cs.length (m.getD j 0) ∧ m.getD j 0 ≠ 0) ⟨h7, h6⟩ hr
            · exact Evp.yes rfl (Evp.pure _ (all_stop hi fun h8 => h7 h8.1))
        have k0 : ∀ i, i ≤ l.length → Evp (fun k => impl_shapeOk.l0 k cs l (l.length : Int) (i : Int) b l m) (fun r => r = true ↔ (∀ j, i ≤ j → j < l.length → TyOk cs.length (l.getD j 0)) ∧ ((∀ j, 0 ≤ j → j < m.length → TyOk cs.length (m.getD j 0) ∧ m.getD j 0 ≠ 0) ∧ True)) := by
          refine Evp.for_ ?_ (fun i hi ih => ?_)
          · refine Evp.step (f := fun k => _) (fun k => by rw [impl_shapeOk.l0]) (Evp.no (by omega) ?_)
            exact (k1 0 (Nat.zero_le _)).mono fun r hr => all_end hr
          · obtain ⟨q, hq, hq2⟩ := kindOf_ty (n := cs.length) (t := l.getD i 0) (by omega) (il.at hi).1 (il.at hi).2
            refine Evp.step (f := fun k => _) (fun k => by rw [impl_shapeOk.l0, rdN, hq, Option.bind_some]) (Evp.yes (by omega) (Evp.yes (by omega) (Evp.yes (by omega) ?_)))
            rcases hq2 with ⟨h7, rfl⟩ | ⟨h7, rfl⟩
            · refine Evp.no (by have := tyOk_iff.1 h7; omega) ?_
              rw [w64' hi (by omega)]
              exact ih.mono fun r hr => all_step (Q := fun j => TyOk cs.length (l.getD j 0)) h7 hr
            · exact Evp.yes rfl (Evp.pure _ (all_stop hi h7))
        refine (k0 0 (Nat.zero_le _)).mono fun r hr => hr.trans ?_
        rw [all_mem (Q := fun t => TyOk cs.length t), all_mem (Q := fun t => TyOk cs.length t ∧ t ≠ 0)]
        unfold ShOk
        rw [hb]
        constructor
        · intro h5; exact .inl ⟨rfl, h1, h4, h5.1, h5.2.1⟩
        · intro h5
          rcases h5 with h6 | h6
          · exact ⟨h6.2.2.2.1, h6.2.2.2.2, trivial⟩
          · cases h6.1
      · rw [decide_eq_true (by omega)]
        refine jt ?_
        unfold ShOk
        rw [hb]
        intro h5
        rcases h5 with h5 | h5
        · exact h4 h5.2.2.1
        · cases h5.1
    · unfold ShOk
      rw [hb]
      intro h5
      rcases h5 with h5 | h5
      · exact h1 h5.2.1
      · cases h5.1
  · have hb' : b = false := by simpa using hb
    rw [beq_iff_eq]
    unfold ShOk
    rw [hb']
    constructor
    · intro h2; exact .inr ⟨rfl, by omega, by omega⟩
    · intro h2
      rcases h2 with h3 | h3
      · cases h3.1
      · omega
  · have hb' : b = false := by simpa using hb
    unfold ShOk
    rw [hb']
    intro h2
    rcases h2 with h3 | h3
    · cases h3.1
    · omega
end Go.Proofs.Ytedodaifpekahaa.Kit

end
section

namespace Go.Proofs.Ytedodaifpekahaa.Kit
open Go Go.RowKit Go.Proofs.YtedodaifpekahaaW.PrintWords Go.Proofs.Ytedodaifpekahaa.P
set_option linter.unusedVariables false
abbrev Mth := S46
abbrev Ins := S67
abbrev Shp_ := S70
abbrev Cth := S73
theorem rdX {xs : List Ins} (i : Nat) : rd_T67 xs (i : Int) = xs.getD i z67 := rfl
theorem rdS {xs : List Shp_} (i : Nat) : rd_T70 xs (i : Int) = xs.getD i z70 := rfl
theorem rdK {xs : List Cth} (i : Nat) : rd_T73 xs (i : Int) = xs.getD i z73 := rfl
def self_ (a0 : Int) : Int := if 0 ≤ a0 then 1 else 0
theorem self_no {a0 : Int} (h : a0 < 0) : self_ a0 = 0 := if_neg (by omega)
theorem self_yes {a0 : Int} (h : 0 ≤ a0) : self_ a0 = 1 := if_pos h
def HeadA (n : Nat) (a0 a1 : Int) : Prop := (a0 = -1 ∧ a1 = 0) ∨ (1 ≤ a0 ∧ a0 < (n : Int) ∧ 0 ≤ a1 ∧ a1 < 3)
def HeadB (n : Nat) (a0 : Int) (l2 : List Int) (a3 a4 : Int) : Prop := l2.length ≤ 2 ∧ FieldTy n a3 ∧ (∀ t ∈ l2, FieldTy n t) ∧ a4 ≤ 3 ∧ self_ a0 + (l2.length : Int) ≤ a4
def HeadOk (n : Nat) (a0 a1 : Int) (l2 : List Int) (a3 a4 : Int) : Prop := HeadA n a0 a1 ∧ HeadB n a0 l2 a3 a4
theorem given_eq {a0 a1 : Int} {l2 : List Int} {a3 a4 : Int} {l5 : List Ins} {l6 : List Shp_} {l7 : List Cth} (hl : l2.length ≤ 1048576) : ∃ g, impl_given.f a0 a1 l2 a3 a4 l5 l6 l7 = some g ∧ (g.length : Int) = self_ a0 + (l2.length : Int) := by
  unfold impl_given.f
  by_cases h : a0 ≥ 0
  · rw [if_pos h, if_pos (by simp)]
    simp only [Option.bind_some]
    rw [if_pos (by simp; omega), self_yes h]
    exact ⟨_, rfl, by simp; omega⟩
  · rw [if_neg h, if_pos (by simp; omega), self_no (by omega)]
    exact ⟨_, rfl, by simp⟩
theorem impl_head {cs : List Cls} (hs : SmallC cs) (ms : List Mth) {a0 a1 : Int} {l2 : List Int} {a3 a4 : Int} (l5 : List Ins) (l6 : List Shp_) (l7 : List Cth) (h0 : -9223372036854775808 ≤ a3) (h1 : a3 ≤ 9223372036854775807) (hl : l2.length ≤ 1048576) (il : I64 l2) :
    Evp (fun k => impl_headOk.f k cs ms a0 a1 l2 a3 a4 l5 l6 l7) (fun r => r = true ↔ HeadOk cs.length a0 a1 l2 a3 a4) := by
  have hs0 := hs.1
  have jt : ∀ P : Prop, ¬ P → Evp (fun k => impl_headOk.j1 k true cs ms a0 a1 l2 a3 a4 l5 l6 l7) (fun r => r = true ↔ P) := fun P h =>
    Evp.step (f := fun k => _) (fun k => by rw [impl_headOk.j1]) (Evp.yes rfl (Evp.pure _ (iff_no h)))
  have j0 : Evp (fun k => impl_headOk.j0 k cs ms a0 a1 l2 a3 a4 l5 l6 l7) (fun r => r = true ↔ HeadB cs.length a0 l2 a3 a4) := by
    refine Evp.step (f := fun k => _) (fun k => by rw [impl_headOk.j0]) (Evp.ite (fun h2 => jt _ fun h3 => ?_) (fun h2 => ?_))
    · have := h3.1; omega
    obtain ⟨b, hb, hb2⟩ := fieldType_eq (n := cs.length) (by omega) h0 h1
    simp only [hb, Option.bind_some]
    cases b with
    | false => exact jt _ fun h3 => by have := hb2.2 h3.2.1; cases this
    | true =>
      have h3 := hb2.1 rfl
      refine Evp.step (f := fun k => _) (fun k => by rw [impl_headOk.j1]) (Evp.no (by decide) ?_)
      obtain ⟨g, hg, hg2⟩ := given_eq (a0 := a0) (a1 := a1) (a3 := a3) (a4 := a4) (l5 := l5) (l6 := l6) (l7 := l7) hl
      have k0 : ∀ i, i ≤ l2.length → Evp (fun k => impl_headOk.l0 k l2 (l2.length : Int) (i : Int) cs ms a0 a1 l2 a3 a4 l5 l6 l7) (fun r => r = true ↔ (∀ j, i ≤ j → j < l2.length → FieldTy cs.length (l2.getD j 0)) ∧ (a4 ≤ 3 ∧ self_ a0 + (l2.length : Int) ≤ a4)) := by
        refine Evp.for_ ?_ (fun i hi ih => ?_)
        · refine Evp.step (f := fun k => _) (fun k => by rw [impl_headOk.l0]) (Evp.no (by omega) (Evp.ite (fun h4 => ?_) (fun h4 => Evp.pure _ (all_end (iff_no fun h5 => h4 h5.1)))))
          simp only [hg, Option.bind_some]
          refine Evp.pure _ (all_end ?_)
          rw [decide_eq_true_iff, ge_iff_le, hg2]
          exact ⟨fun h5 => ⟨h4, h5⟩, fun h5 => h5.2⟩
        · refine Evp.step (f := fun k => _) (fun k => by rw [impl_headOk.l0, rdN]) (Evp.yes (by omega) (Evp.yes (by omega) (Evp.yes (by omega) ?_)))
          obtain ⟨c, hc, hc2⟩ := fieldType_eq (n := cs.length) (by omega) (il.at hi).1 (il.at hi).2
          simp only [hc, Option.bind_some]
          refine Evp.ite (fun h5 => ?_) (fun h5 => Evp.pure _ (all_stop hi fun h7 => h5 (hc2.2 h7)))
          rw [w64' hi (by omega)]
          exact ih.mono fun r hr => all_step (Q := fun j => FieldTy cs.length (l2.getD j 0)) (hc2.1 h5) hr
      refine (k0 0 (Nat.zero_le _)).mono fun r hr => hr.trans ?_
      rw [all_mem (Q := fun t => FieldTy cs.length t)]
      unfold HeadB
      exact ⟨fun h5 => ⟨by omega, h3, h5.1, h5.2.1, h5.2.2⟩, fun h5 => ⟨h5.2.2.1, h5.2.2.2.1, h5.2.2.2.2⟩⟩
  have fin : HeadA cs.length a0 a1 → Evp (fun k => impl_headOk.j0 k cs ms a0 a1 l2 a3 a4 l5 l6 l7) (fun r => r = true ↔ HeadOk cs.length a0 a1 l2 a3 a4) := fun ha => j0.mono fun r hr => hr.trans ⟨fun h => ⟨ha, h⟩, fun h => h.2⟩
  have no : ¬ HeadA cs.length a0 a1 → Evp (fun k => some false) (fun r => r = true ↔ HeadOk cs.length a0 a1 l2 a3 a4) := fun ha => Evp.pure _ (iff_no fun h => ha h.1)
  unfold impl_headOk.f
  refine Evp.ite (fun h2 => Evp.ite (fun h3 => fin (.inl ⟨h2, h3⟩)) (fun h3 => no ?_)) (fun h2 => Evp.ite (fun h3 => no ?_) (fun h3 => ?_))
  · rintro (h4 | h4) <;> omega
  · rintro (h4 | h4) <;> omega
  obtain ⟨x, hx, hx2⟩ := impl_isClass_eq cs a0
  simp only [hx, Option.bind_some]
  refine Evp.ite (fun h4 => Evp.ite (fun h5 => no ?_) (fun h5 => Evp.ite (fun h6 => no ?_) (fun h6 => fin (.inr ?_)))) (fun h4 => no ?_)
  · rintro (h7 | h7) <;> omega
  · rintro (h7 | h7) <;> omega
  · have := hx2.1 h4; omega
  · rintro (h7 | h7)
    · omega
    · exact h4 (hx2.2 (by omega))
theorem spec_head {cs : List Cls} (hs : SmallC cs) (ms : List Mth) {a0 a1 : Int} {l2 : List Int} {a3 a4 : Int} (l5 : List Ins) (l6 : List Shp_) (l7 : List Cth) (hl : l2.length ≤ 1048576) :
    Evp (fun k => spec_l3Head.f k cs ms a0 a1 l2 a3 a4 l5 l6 l7) (fun r => r = true ↔ HeadOk cs.length a0 a1 l2 a3 a4) := by
  have hs0 := hs.1
  have jt : ∀ P : Prop, ¬ P → Evp (fun k => spec_l3Head.j1 k true cs ms a0 a1 l2 a3 a4 l5 l6 l7) (fun r => r = true ↔ P) := fun P h =>
    Evp.step (f := fun k => _) (fun k => by rw [spec_l3Head.j1]) (Evp.yes rfl (Evp.pure _ (iff_no h)))
  have key : Evp (fun k => spec_l3Head.j0 k (self_ a0) cs ms a0 a1 l2 a3 a4 l5 l6 l7) (fun r => r = true ↔ HeadOk cs.length a0 a1 l2 a3 a4) := by
    have hself : 0 ≤ self_ a0 ∧ self_ a0 ≤ 1 := by unfold self_; split <;> omega
    have noA : (¬ (1 ≤ a0 ∧ a0 < (cs.length : Int) ∨ a0 = -1)) → ¬ HeadOk cs.length a0 a1 l2 a3 a4 := fun h h2 => by
      rcases h2.1 with h3 | h3 <;> omega
    refine Evp.step (f := fun k => _) (fun k => by rw [spec_l3Head.j0]) (Evp.ite (fun h2 => jt _ (noA (by omega))) (fun h2 => ?_))
    rw [in_eq, w64 (n := (cs.length : Int) - 1) (by omega) (by omega)]
    simp only [Option.bind_some, decide_eq_true_iff]
    refine Evp.ite (fun h3 => ?_) (fun h3 => jt _ (noA (by omega)))
    refine Evp.ite (fun h4 => jt _ fun h5 => ?_) (fun h4 => ?_)
    · have := h5.2.1; omega
    obtain ⟨b, hb, hb2⟩ := field_eq (cs := cs) (t := a3) (by omega)
    simp only [hb, Option.bind_some]
    refine Evp.ite (fun h5 => ?_) (fun h5 => jt _ fun h6 => h5 (hb2.2 h6.2.2.1))
    rw [in_eq, w64 (by omega) (by omega)]
    simp only [Option.bind_some]
    by_cases h6 : self_ a0 + (l2.length : Int) ≤ a4 ∧ a4 ≤ 3
    · rw [decide_eq_true h6]
      refine Evp.step (f := fun k => _) (fun k => by rw [spec_l3Head.j1]) (Evp.no (by decide) ?_)
      have k0 : ∀ i, i ≤ l2.length → Evp (fun k => spec_l3Head.l0 k (i : Int) cs ms a0 a1 l2 a3 a4 l5 l6 l7) (fun r => r = true ↔ (∀ j, i ≤ j → j < l2.length → FieldTy cs.length (l2.getD j 0)) ∧ HeadA cs.length a0 a1) := by
        refine Evp.for_ ?_ (fun i hi ih => ?_)
        · refine Evp.step (f := fun k => _) (fun k => by rw [spec_l3Head.l0]) (Evp.no (by omega) ?_)
          rw [in_eq]
          simp only [Option.bind_some, decide_eq_true_iff]
          refine Evp.ite (fun h7 => Evp.ite (fun h8 => Evp.pure _ (all_end (iff_yes (.inr ?_)))) (fun h8 => Evp.no (by omega) (Evp.pure _ (all_end (iff_no ?_))))) (fun h7 => Evp.yes (by omega) (Evp.pure _ (all_end ?_)))
          · omega
          · rintro (h9 | h9) <;> omega
          · rw [beq_iff_eq]
            exact ⟨fun h9 => .inl ⟨by omega, h9⟩, fun h9 => by rcases h9 with h10 | h10 <;> omega⟩
        · refine Evp.step (f := fun k => _) (fun k => by rw [spec_l3Head.l0, rdN]) (Evp.yes (by omega) (Evp.yes (by omega) ?_))
          obtain ⟨c, hc, hc2⟩ := field_eq (cs := cs) (t := l2.getD i 0) (by omega)
          simp only [hc, Option.bind_some]
          refine Evp.ite (fun h5 => ?_) (fun h5 => Evp.pure _ (all_stop hi fun h7 => h5 (hc2.2 h7)))
          rw [w64' hi (by omega)]
          exact ih.mono fun r hr => all_step (Q := fun j => FieldTy cs.length (l2.getD j 0)) (hc2.1 h5) hr
      refine (k0 0 (Nat.zero_le _)).mono fun r hr => hr.trans ?_
      rw [all_mem (Q := fun t => FieldTy cs.length t)]
      exact ⟨fun h7 => ⟨h7.2, by omega, hb2.1 h5, h7.1, h6.2, h6.1⟩, fun h7 => ⟨h7.2.2.2.1, h7.1⟩⟩
    · rw [decide_eq_false h6]
      exact jt _ fun h7 => h6 ⟨h7.2.2.2.2.2, h7.2.2.2.2.1⟩
  unfold spec_l3Head.f
  refine Evp.ite (fun h => ?_) (fun h => ?_)
  · have := key
    rw [self_yes h] at this
    exact this
  · have := key
    rw [self_no (by omega)] at this
    exact this
end Go.Proofs.Ytedodaifpekahaa.Kit

end
section

namespace Go.Proofs.Ytedodaifpekahaa.Kit
open Go Go.RowKit Go.Proofs.YtedodaifpekahaaW.PrintWords Go.Proofs.Ytedodaifpekahaa.P
set_option linter.unusedVariables false
theorem impl_flds {cs : List Cls} (h : ClsOk cs) : ∀ a : Nat, a < cs.length → Evp (fun k => impl_classFields.f k cs (a : Int)) (fun r => Flds cs a r ∧ r.length ≤ 2 * a) := by
  have hhi := h.hi
  intro a
  induction a using Nat.strongRecOn with
  | _ a ih =>
    intro ha
    refine Evp.step (f := fun k => _) (fun k => by rw [impl_classFields.f]) (Evp.ite (fun h0 => Evp.pure _ ?_) (fun h0 => ?_))
    · have : a = 0 := by omega
      subst this
      exact ⟨.root, Nat.le_refl _⟩
    · obtain ⟨p, hp, hlt⟩ := h.sup_nat (i := a) (by omega) ha
      have e : (rd_T76 cs (a : Int)).f0 = (p : Int) := hp
      have hl2 := h.len2 ha
      refine Evp.yes (by omega) (Evp.yes (by omega) ?_)
      rw [e, rdFlds]
      refine Evp.bind (ih p hlt (by omega)) fun l hl => Evp.yes (by have := hl.2; omega) (Evp.pure _ ⟨.step p (by omega) hp hl.1, ?_⟩)
      have := hl.2
      rw [List.length_append]; omega
theorem spec_flds {cs : List Cls} (h : ClsOk cs) : ∀ a : Nat, a < cs.length → Evp (fun k => spec_l2Fields.f k cs (a : Int)) (fun r => Flds cs a r ∧ r.length ≤ 2 * a) := by
  have hhi := h.hi
  intro a
  induction a using Nat.strongRecOn with
  | _ a ih =>
    intro ha
    refine Evp.step (f := fun k => _) (fun k => by rw [spec_l2Fields.f]) (Evp.ite (fun h0 => Evp.pure _ ?_) (fun h0 => ?_))
    · have : a = 0 := by omega
      subst this
      exact ⟨.root, Nat.le_refl _⟩
    · obtain ⟨p, hp, hlt⟩ := h.sup_nat (i := a) (by omega) ha
      have e : (rd_T76 cs (a : Int)).f0 = (p : Int) := hp
      have hl2 := h.len2 ha
      refine Evp.yes (by omega) (Evp.yes (by omega) ?_)
      rw [e, rdFlds]
      refine Evp.bind (ih p hlt (by omega)) fun l hl => Evp.yes (by have := hl.2; omega) (Evp.pure _ ⟨.step p (by omega) hp hl.1, ?_⟩)
      have := hl.2
      rw [List.length_append]; omega
end Go.Proofs.Ytedodaifpekahaa.Kit

end
section

namespace Go.Proofs.Ytedodaifpekahaa.Kit
open Go Go.RowKit Go.Proofs.YtedodaifpekahaaW.PrintWords Go.Proofs.Ytedodaifpekahaa.P
set_option linter.unusedVariables false
set_option linter.unusedSimpArgs false
def OpOk (cs : List Cls) (ms : List Mth) (a4 : Int) (nc : Nat) (xa what n : Int) : Prop :=
  if what = 1 then -128 ≤ n ∧ n ≤ 127 else if what = 2 then 0 ≤ n ∧ n < a4 else if what = 3 then 1 ≤ n ∧ n ≤ 4 else if what = 4 then 0 ≤ n ∧ n < (nc : Int) else if what = 5 then 0 ≤ n ∧ n < (cs.length : Int) else if what = 6 then n = 0 ∨ n = 1 else
  if what = 7 then 0 ≤ n ∧ n < (ms.length : Int) ∧ (ms.getD n.toNat z46).f0 = -1 else if what = 8 then 0 ≤ n ∧ ∃ l, Flds cs xa.toNat l ∧ n < (l.length : Int) else if what = 9 then 0 ≤ n ∧ n < 3 else n = 0
def InsOk (cs : List Cls) (ms : List Mth) (a4 : Int) (nc : Nat) (x : Ins) : Prop := ∃ p q, wantFind x.f0 wantL = some (p, q) ∧ OpOk cs ms a4 nc x.f1 p x.f1 ∧ OpOk cs ms a4 nc x.f1 q x.f2
theorem two_evp {A B : Prop} [Decidable A] [Decidable B] : Evp (fun _ => if A then some (decide B) else some false) (fun r => r = true ↔ A ∧ B) := by
  refine Evp.ite (fun h => Evp.pure _ ?_) (fun h => Evp.pure _ (iff_no fun h2 => h h2.1))
  rw [decide_eq_true_iff]
  exact ⟨fun h2 => ⟨h, h2⟩, fun h2 => h2.2⟩
theorem impl_operand {cs : List Cls} (hok : ClsOk cs) (ms : List Mth) {a0 a1 : Int} {l2 : List Int} {a3 a4 : Int} (l5 : List Ins) (l6 : List Shp_) (l7 : List Cth) {x0 xa x2 what n : Int} (h8 : what = 8 → 0 ≤ xa ∧ xa < (cs.length : Int)) :
    Evp (fun k => impl_operandOk.f k cs ms a0 a1 l2 a3 a4 l5 l6 l7 x0 xa x2 what n) (fun r => r = true ↔ OpOk cs ms a4 l5.length xa what n) := by
  unfold impl_operandOk.f OpOk
  by_cases h1 : what = 1
  · simp only [if_pos h1]
    unfold impl_isWord.f
    exact Evp.bind two_evp fun r hr => Evp.pure _ hr
  simp only [if_neg h1]
  by_cases h2 : what = 2
  · simp only [if_pos h2]; exact two_evp
  simp only [if_neg h2]
  by_cases h3 : what = 3
  · simp only [if_pos h3]; exact two_evp
  simp only [if_neg h3]
  by_cases h4 : what = 4
  · simp only [if_pos h4]; exact two_evp
  simp only [if_neg h4]
  by_cases h5 : what = 5
  · simp only [if_pos h5]
    obtain ⟨x, hx, hx2⟩ := impl_isClass_eq cs n
    simp only [hx, Option.bind_some]
    exact Evp.pure _ hx2
  simp only [if_neg h5]
  by_cases h6 : what = 6
  · simp only [if_pos h6]
    refine Evp.ite (fun h => Evp.pure _ (iff_yes (.inl h))) (fun h => Evp.pure _ ?_)
    rw [beq_iff_eq]
    exact ⟨fun h2 => .inr h2, fun h2 => h2.resolve_left h⟩
  simp only [if_neg h6]
  by_cases h7 : what = 7
  · simp only [if_pos h7]
    refine Evp.ite (fun h => Evp.ite (fun h' => Evp.yes h (Evp.pure _ ?_)) (fun h' => Evp.pure _ (iff_no fun h2 => h' h2.2.1))) (fun h => Evp.pure _ (iff_no fun h2 => h h2.1))
    rw [beq_iff_eq]
    exact ⟨fun h2 => ⟨h, h', h2⟩, fun h2 => h2.2.2⟩
  simp only [if_neg h7]
  by_cases h8' : what = 8
  · simp only [if_pos h8']
    obtain ⟨hx0, hx1⟩ := h8 h8'
    refine Evp.ite (fun h => ?_) (fun h => Evp.pure _ (iff_no fun h2 => h h2.1))
    have := impl_flds hok xa.toNat (by omega)
    rw [show ((xa.toNat : Nat) : Int) = xa by omega] at this
    refine Evp.bind this fun l hl => Evp.pure _ ?_
    rw [decide_eq_true_iff]
    exact ⟨fun h2 => ⟨h, l, hl.1, h2⟩, fun h2 => by obtain ⟨_, l', hl', h3⟩ := h2; rw [hl.1.fn hl']; exact h3⟩
  simp only [if_neg h8']
  by_cases h9 : what = 9
  · simp only [if_pos h9]; exact two_evp
  simp only [if_neg h9]
  exact Evp.pure _ (by rw [beq_iff_eq])
theorem wantFind_mem {n : Int} : ∀ {l : List (Int × Int × Int)} {r : Int × Int}, wantFind n l = some r → ∃ e ∈ l, e.2 = r
  | [], _, h => by cases h
  | e :: l, r, h => by
    unfold wantFind at h
    split at h
    · exact ⟨e, List.mem_cons_self, Option.some.inj h⟩
    · obtain ⟨x, hx, hr⟩ := wantFind_mem h
      exact ⟨x, List.mem_cons_of_mem _ hx, hr⟩
theorem want_8 {n p q : Int} (h : wantFind n wantL = some (p, q)) : p ≠ 8 ∧ (q = 8 → p = 5) := by
  obtain ⟨e, he, hr⟩ := wantFind_mem h
  have key : ∀ e ∈ wantL, e.2.1 ≠ 8 ∧ (e.2.2 = 8 → e.2.1 = 5) := by decide
  have := key e he
  rw [hr] at this
  exact this
def ShOk_ (cs : List Cls) (a4 : Int) (s : Shp_) : Prop := ShOk cs a4 s.f0 s.f1 s.f2
structure SmallS (s : Shp_) : Prop where
  l1 : s.f1.length ≤ 1048576
  l2 : s.f2.length ≤ 1048576
  i1 : I64 s.f1
  i2 : I64 s.f2
def CodeOk (cs : List Cls) (ms : List Mth) (a4 : Int) (l5 : List Ins) (l6 : List Shp_) : Prop := (1 ≤ l5.length ∧ l5.length ≤ 12 ∧ l6.length = l5.length) ∧ (∀ j, 0 ≤ j → j < l5.length → InsOk cs ms a4 l5.length (l5.getD j z67)) ∧ (∀ j, 0 ≤ j → j < l6.length → ShOk_ cs a4 (l6.getD j z70))
theorem impl_code {cs : List Cls} (hs : SmallC cs) (hok : ClsOk cs) (ms : List Mth) {a0 a1 : Int} {l2 : List Int} {a3 a4 : Int} (l5 : List Ins) (l6 : List Shp_) (l7 : List Cth) (b : Int) (h6 : ∀ j, j < l6.length → SmallS (l6.getD j z70)) (hn5 : l5.length ≤ 1048576) (hn6 : l6.length ≤ 1048576) :
    Evp (fun k => impl_codeOk.f k cs ms a0 a1 l2 a3 a4 l5 l6 l7 b) (fun r => r = true ↔ CodeOk cs ms a4 l5 l6) := by
  have jt : ¬ (1 ≤ l5.length ∧ l5.length ≤ 12 ∧ l6.length = l5.length) → Evp (fun k => impl_codeOk.j0 k true cs ms a0 a1 l2 a3 a4 l5 l6 l7) (fun r => r = true ↔ CodeOk cs ms a4 l5 l6) := fun h =>
    Evp.step (f := fun k => _) (fun k => by rw [impl_codeOk.j0]) (Evp.yes rfl (Evp.pure _ (iff_no fun h2 => h h2.1)))
  unfold impl_codeOk.f
  refine Evp.ite (fun h1 => jt (by omega)) (fun h1 => Evp.ite (fun h2 => jt (by omega)) (fun h2 => ?_))
  by_cases he : l6.length = l5.length
  · rw [show ((l6.length : Int) != (l5.length : Int)) = false by simp; omega]
    refine Evp.step (f := fun k => _) (fun k => by rw [impl_codeOk.j0]) (Evp.no (by decide) ?_)
    have k1 : ∀ i, i ≤ l6.length → Evp (fun k => impl_codeOk.l1 k l6 (l6.length : Int) (i : Int) cs ms a0 a1 l2 a3 a4 l5 l6 l7) (fun r => r = true ↔ (∀ j, i ≤ j → j < l6.length → ShOk_ cs a4 (l6.getD j z70)) ∧ True) := by
      refine Evp.for_ ?_ (fun i hi ih => ?_)
      · exact Evp.step (f := fun k => _) (fun k => by rw [impl_codeOk.l1]) (Evp.no (by omega) (Evp.pure _ (all_end (iff_yes trivial))))
      · have hss := h6 i hi
        refine Evp.step (f := fun k => _) (fun k => by rw [impl_codeOk.l1, rdS]) (Evp.yes (by omega) (Evp.yes (by omega) (Evp.yes (by omega) ?_)))
        refine Evp.bind (impl_shapeOk' hs a4 _ hss.l1 hss.l2 hss.i1 hss.i2) fun c hc => Evp.ite (fun h5 => ?_) (fun h5 => Evp.pure _ (all_stop hi fun h7 => h5 (hc.2 h7)))
        rw [w64' hi (by omega)]
        exact ih.mono fun r hr => all_step (Q := fun j => ShOk_ cs a4 (l6.getD j z70)) (hc.1 h5) hr
    have k0 : ∀ i, i ≤ l5.length → Evp (fun k => impl_codeOk.l0 k l5 (l5.length : Int) (i : Int) cs ms a0 a1 l2 a3 a4 l5 l6 l7) (fun r => r = true ↔ (∀ j, i ≤ j → j < l5.length → InsOk cs ms a4 l5.length (l5.getD j z67)) ∧ ((∀ j, 0 ≤ j → j < l6.length → ShOk_ cs a4 (l6.getD j z70)) ∧ True)) := by
      refine Evp.for_ ?_ (fun i hi ih => ?_)
      · refine Evp.step (f := fun k => _) (fun k => by rw [impl_codeOk.l0]) (Evp.no (by omega) ?_)
        exact (k1 0 (Nat.zero_le _)).mono fun r hr => all_end hr
      · refine Evp.step (f := fun k => _) (fun k => by rw [impl_codeOk.l0, rdX]) (Evp.yes (by omega) (Evp.yes (by omega) (Evp.yes (by omega) ?_)))
        unfold impl_wantOf.f
        simp only [Option.bind_some]
        cases hw : wantFind (l5.getD i z67).f0 wantL with
        | none =>
          refine Evp.no (by decide) (Evp.pure _ (all_stop hi fun h7 => ?_))
          obtain ⟨p, q, h8, _⟩ := h7
          rw [hw] at h8; cases h8
        | some pq =>
          obtain ⟨p, q⟩ := pq
          have h8 := want_8 hw
          dsimp only
          refine Evp.yes rfl (Evp.bind (impl_operand hok ms l5 l6 l7 (fun h => absurd h h8.1)) fun c hc => Evp.ite (fun h9 => ?_) (fun h9 => Evp.pure _ (all_stop hi fun h7 => ?_)))
          · refine Evp.bind (impl_operand hok ms l5 l6 l7 (fun h => ?_)) fun d hd => Evp.ite (fun h10 => ?_) (fun h10 => Evp.pure _ (all_stop hi fun h7 => ?_))
            · have := hc.1 h9
              rw [h8.2 h] at this
              unfold OpOk at this
              simpa using this
            · rw [w64' hi (by omega)]
              exact ih.mono fun r hr => all_step (Q := fun j => InsOk cs ms a4 l5.length (l5.getD j z67)) ⟨p, q, hw, hc.1 h9, hd.1 h10⟩ hr
            · obtain ⟨p', q', h11, _, h12⟩ := h7
              rw [hw] at h11
              cases h11
              exact h10 (hd.2 h12)
          · obtain ⟨p', q', h11, h12, _⟩ := h7
            rw [hw] at h11
            cases h11
            exact h9 (hc.2 h12)
    refine (k0 0 (Nat.zero_le _)).mono fun r hr => hr.trans ?_
    exact ⟨fun h => ⟨⟨by omega, by omega, he⟩, h.1, h.2.1⟩, fun h => ⟨h.2.1, h.2.2, trivial⟩⟩
  · rw [show ((l6.length : Int) != (l5.length : Int)) = true by simp; omega]
    exact jt (by omega)
end Go.Proofs.Ytedodaifpekahaa.Kit

end
