/- A part of the claim FnExactUnitOk: texts of this session and texts that its program printed out of the translation, joined. -/
import Derived.Test.YtedodaifpekahaaCFnExactUnitOk21
import Derived.Test.YtedodaifpekahaaCFnExactUnitOk22
import Derived.Test.YtedodaifpekahaaCFnExactUnitOk31
import Derived.Test.YtedodaifpekahaaCFnExactUnitOk0
import Derived.Test.YtedodaifpekahaaCFnExactUnitOk1
import Derived.Test.YtedodaifpekahaaCFnExactUnitOk2
import Derived.Test.YtedodaifpekahaaCFnExactUnitOk3
import Derived.Test.YtedodaifpekahaaCFnExactUnitOk4
import Derived.Test.YtedodaifpekahaaCFnExactUnitOk5
import Derived.Test.YtedodaifpekahaaCFnExactUnitOk6
import Derived.Test.YtedodaifpekahaaCFnExactUnitOk7
import Derived.Test.YtedodaifpekahaaCFnExactUnitOk8
import Derived.Test.YtedodaifpekahaaCFnExactUnitOk9
import Derived.Test.YtedodaifpekahaaCFnExactUnitOk10
import Derived.Test.YtedodaifpekahaaCFnExactUnitOk11
import Derived.Test.YtedodaifpekahaaCFnExactUnitOk12
import Derived.Test.YtedodaifpekahaaCFnExactUnitOk13
import Derived.Test.YtedodaifpekahaaCFnExactUnitOk14
import Derived.Test.YtedodaifpekahaaCFnExactUnitOk15
import Derived.Test.YtedodaifpekahaaCFnExactUnitOk16
import Derived.Test.YtedodaifpekahaaCFnExactUnitOk17
import Derived.Test.YtedodaifpekahaaCFnExactUnitOk18
import Derived.Test.YtedodaifpekahaaCFnExactUnitOk19
import Derived.Test.YtedodaifpekahaaCFnExactUnitOk20
import Derived.Test.YtedodaifpekahaaCFnExactUnitOk23
import Derived.Test.YtedodaifpekahaaCFnExactUnitOk24
import Derived.Test.YtedodaifpekahaaCFnExactUnitOk25
import Derived.Test.YtedodaifpekahaaCFnExactUnitOk26
import Derived.Test.YtedodaifpekahaaCFnExactUnitOk27
import Derived.Test.YtedodaifpekahaaCFnExactUnitOk28
import Derived.Test.YtedodaifpekahaaCFnExactUnitOk29
import Derived.Test.YtedodaifpekahaaCFnExactUnitOk30
section

namespace Go.Proofs.Ytedodaifpekahaa.P
open Go.RowKit Go.Proofs.YtedodaifpekahaaW.PrintWords Go.Proofs.YtedodaifpekahaaW.PrintLast Go.Proofs.YtedodaifpekahaaW.PrintMore
attribute [local go_sem] max2_int min2_int max_two min_two max_three min_three max_four min_four
set_option linter.unusedVariables false
set_option linter.unusedSimpArgs false
def laws_eqShapeS.T6 : Bool × List (List Nat × List Nat) := (true, [([], []), ([], []), ([0, 1], [0, 1]), ([2], [2]), ([], []), ([], []), ([4, 5], [4, 5]), ([6], [6]), ([3, 7], [3, 7]), ([8], [8])])
def laws_eqShapeS.B6 : List Nat := [0, 0, 3, 7, 0, 0, 48, 112, 255, 511]
theorem laws_eqShapeS.tab6 : rtab .any (opsOf Try.f67 6) = laws_eqShapeS.T6 := by kernel_rfl
theorem laws_eqShapeS.bits6 : waitsOk laws_eqShapeS.T6.2 laws_eqShapeS.B6 = true := by kernel_rfl
set_option maxHeartbeats 8000000 in
set_option maxRecDepth 100000 in
theorem laws_eqShapeS.calls (k : Nat) (A0 : Option Addr) (c0 : Nat) (l0 : List (S70)) (A1 : Option Addr) (c1 : Nat) (l1 : List (S70)) (r : Bool) (w : World) (hr0 : Kd.C k70 w A0 l0.length l0) (hc0 : l0.length ≤ c0) (hr1 : Kd.C k70 w A1 l1.length l1) (hc1 : l1.length ≤ c1) (h : laws_eqShapeS.f k l0 l1 = some r) :
  Calls Try.prog 67 #[.slice A0 l0.length c0, .slice A1 l1.length c1] w fun e w' => e = .returned (.bool r) ∧ Below w.heap.size w w' := by
 have hu70 := Try.underlying70
 have HR0 := Aside0.mk hr0
 have HC0 := Aside0.mk hc0
 clear hr0 hc0
 have HR1 := Aside0.mk hr1
 have HC1 := Aside0.mk hc1
 clear hr1 hc1
 have HB := Aside0.mk (Below.refl w.heap.size w)
 have H : (if (l0.length : Int) = (l1.length : Int) then (laws_eqShapeS.l0 k l0 l1 0) else (some false)) = some r := h
 clear h
 by_cases c3 : (l0.length : Int) = (l1.length : Int)
 ·rw [if_pos c3] at H
  have c3b0 := beq_iff_eq.mpr c3
  have c3b1 := bne_eq_false_iff_eq.mpr c3
  have c3b2 : (l0.length == l1.length) = true := by first | simpa using c3 | (simp at c3 ⊢; omega)
  clear c3
  have H' := Aside0.mk H
  clear H
  go_enter Try.func67, Try.ntmps67
  go_wp2
  go_loopg [5] k (fun kq v5 w' => ∃ (x5_1 : Int), v5 = .int .i64 x5_1 ∧ Aside0 (laws_eqShapeS.l0 kq l0 l1 x5_1 = some r) ∧ Aside0 (kq ≤ k) ∧ Aside0 (Below w.heap.size w w'))
  case atStart => exact ⟨(0), (by first | rfl | (simp; done) | (simp [*]; done)), H', ⟨Nat.le_refl _⟩, ⟨bl⟩⟩
  case round =>
   clear H'
   obtain ⟨x5_1, rfl, HA, HK1, HB⟩ := hrel
   cases gk with
   | zero => exact absurd HA.out (by simp [laws_eqShapeS.l0])
   | succ k1 =>
    have H := HA.out
    clear HA
    simp only [laws_eqShapeS.l0] at H
    by_cases c4 : x5_1 < (l0.length : Int)
    ·rw [if_pos c4] at H
     have c4b0 : decide (x5_1 < (l0.length : Int)) = true := decide_eq_true c4
     clear c4
     by_cases c5 : 0 ≤ x5_1
     ·rw [if_pos c5] at H
      have c5b0 : decide (0 ≤ x5_1) = true := decide_eq_true c5
      clear c5
      by_cases c6 : x5_1 < (l1.length : Int)
      ·rw [if_pos c6] at H
       have c6b0 : decide (x5_1 < (l1.length : Int)) = true := decide_eq_true c6
       clear c6
       obtain ⟨t431, A7, H⟩ := ob H
       by_cases c8 : t431 = true
       ·subst c8
        replace H := it H
        have H' := Aside0.mk H
        clear H
        try go_wp2
        replace HB := Aside0.mk (below_drew1 HB.out)
        have p429 : 0 ≤ (x5_1 : Int) := od
        have q429 : x5_1 < (l0.length : Int) := od
        obtain ⟨ad429, A429_1, c429_1, A429_2, c429_2, e429, hx429_0, hx429_1, hx429_2, hl429_1, hi429_1, hl429_2, hi429_2⟩ := at_T70 HR0.out x5_1 p429 q429
        have hw429_2 := hx429_2
        have hw429_1 := hx429_1
        have hw429_0 := hx429_0
        cases e429
        obtain ⟨hx429_0,hx429_1,hx429_2⟩ := hc3 HB hx429_0 hx429_1 hx429_2
        have HR429_1 := Aside0.mk hi429_1
        have HC429_1 := Aside0.mk hl429_1
        clear hi429_1 hl429_1
        have HR429_2 := Aside0.mk hi429_2
        have HC429_2 := Aside0.mk hl429_2
        clear hi429_2 hl429_2
        replace p429 := eq_true p429
        replace q429 := eq_true q429
        have p430 : 0 ≤ (x5_1 : Int) := od
        have q430 : x5_1 < (l1.length : Int) := od
        obtain ⟨ad430, A430_1, c430_1, A430_2, c430_2, e430, hx430_0, hx430_1, hx430_2, hl430_1, hi430_1, hl430_2, hi430_2⟩ := at_T70 HR1.out x5_1 p430 q430
        have hw430_2 := hx430_2
        have hw430_1 := hx430_1
        have hw430_0 := hx430_0
        cases e430
        obtain ⟨hx430_0,hx430_1,hx430_2⟩ := hc3 HB hx430_0 hx430_1 hx430_2
        have HR430_1 := Aside0.mk hi430_1
        have HC430_1 := Aside0.mk hl430_1
        clear hi430_1 hl430_1
        have HR430_2 := Aside0.mk hi430_2
        have HC430_2 := Aside0.mk hl430_2
        clear hi430_2 hl430_2
        replace p430 := eq_true p430
        replace q430 := eq_true q430
        refine start_ (n := 10) (S := fun w' => w'.cell? (ad429.add ((x5_1).toNat * 3)) = some (.bool ((rd_T70 l0 x5_1).f0)) ∧ w'.cell? ⟨(ad429.add ((x5_1).toNat * 3)).block, (ad429.add ((x5_1).toNat * 3)).off + 1, none⟩ = some (.slice A429_1 ((rd_T70 l0 x5_1).f1).length c429_1) ∧ w'.cell? ⟨(ad429.add ((x5_1).toNat * 3)).block, (ad429.add ((x5_1).toNat * 3)).off + 2, none⟩ = some (.slice A429_2 ((rd_T70 l0 x5_1).f2).length c429_2) ∧ w'.cell? (ad430.add ((x5_1).toNat * 3)) = some (.bool ((rd_T70 l1 x5_1).f0)) ∧ w'.cell? ⟨(ad430.add ((x5_1).toNat * 3)).block, (ad430.add ((x5_1).toNat * 3)).off + 1, none⟩ = some (.slice A430_1 ((rd_T70 l1 x5_1).f1).length c430_1) ∧ w'.cell? ⟨(ad430.add ((x5_1).toNat * 3)).block, (ad430.add ((x5_1).toNat * 3)).off + 2, none⟩ = some (.slice A430_2 ((rd_T70 l1 x5_1).f2).length c430_2)) (ds := []) #[false, false, false, false, false, false, false, false, false, false] (by kernel_rfl) rfl rfl ⟨((HB.out.cell (World.block_lt_of_cell? w _ hw429_0)).trans hw429_0), ((HB.out.cell (World.block_lt_of_cell? w _ hw429_1)).trans hw429_1), ((HB.out.cell (World.block_lt_of_cell? w _ hw429_2)).trans hw429_2), ((HB.out.cell (World.block_lt_of_cell? w _ hw430_0)).trans hw430_0), ((HB.out.cell (World.block_lt_of_cell? w _ hw430_1)).trans hw430_1), ((HB.out.cell (World.block_lt_of_cell? w _ hw430_2)).trans hw430_2)⟩ (fun hHeld => ?_); refine with_tabW laws_eqShapeS.tab6 laws_eqShapeS.bits6 (fun HT_ HW_ => ?_)
        generalize wr.drew = w9 at HB HR429_1 HR429_2 HR430_1 HR430_2 hx429_0 hx429_1 hx429_2 hx430_0 hx430_1 hx430_2 hHeld ⊢
        refine pu 0 17 #[true, false, false, false, false, false, false, false, false, false] HT_ rfl rfl ?_
        refine pu 1 18 #[true, true, false, false, false, false, false, false, false, false] HT_ rfl rfl ?_
        refine pu 2 19 #[true, true, true, false, false, false, false, false, false, false] HT_ rfl rfl ?_
        refine pu 4 21 #[true, true, true, false, true, false, false, false, false, false] HT_ rfl rfl ?_
        refine pu 5 22 #[true, true, true, false, true, true, false, false, false, false] HT_ rfl rfl ?_
        refine pu 6 23 #[true, true, true, false, true, true, true, false, false, false] HT_ rfl rfl ?_
        refine ta 3 20 #[true, true, true, true, true, true, true, false, false, false] HT_ HW_ hHeld rfl rfl ?_
        refine ta 7 24 #[true, true, true, true, true, true, true, true, false, false] HT_ HW_ hHeld rfl rfl ?_
        refine one_ (i := 8) (N := some 25) #[true, true, true, true, true, true, true, true, true, false] rfl rfl (one_of HT_.out (by kernel_rfl)) (by decide) (fun K hK => ?_)
        refine gs Try.func74 #[.agg #[.bool ((rd_T70 l0 x5_1).f0), .slice A429_1 ((rd_T70 l0 x5_1).f1).length c429_1, .slice A429_2 ((rd_T70 l0 x5_1).f2).length c429_2], .agg #[.bool ((rd_T70 l1 x5_1).f0), .slice A430_1 ((rd_T70 l1 x5_1).f1).length c430_1, .slice A430_2 ((rd_T70 l1 x5_1).f2).length c430_2]] rfl rfl ?_
        with_reducible refine (laws_eqShape.calls k1 ((rd_T70 l0 x5_1).f0) _ _ ((rd_T70 l0 x5_1).f1) _ _ ((rd_T70 l0 x5_1).f2) ((rd_T70 l1 x5_1).f0) _ _ ((rd_T70 l1 x5_1).f1) _ _ ((rd_T70 l1 x5_1).f2) true _ ?side1 ?side2 ?side3 ?side4 ?side5 ?side6 ?side7 ?side8 A7.out).mono ?_
        (case side1 => exact cb HR429_1.out)
        (case side2 => exact HC429_1.out)
        (case side3 => exact cb HR429_2.out)
        (case side4 => exact HC429_2.out)
        (case side5 => exact cb HR430_1.out)
        (case side6 => exact HC430_1.out)
        (case side7 => exact cb HR430_2.out)
        (case side8 => exact HC430_2.out)
        rintro e w10 ⟨rfl, hb⟩
        refine ⟨_, rfl, ?_⟩
        replace HB := hs HB hb
        (try clear hb)
        (try clear hb2)
        (try clear hk)
        (try clear hi)
        refine hK.out _ _ ⟨((HB.out.cell (World.block_lt_of_cell? w _ hw429_0)).trans hw429_0), ((HB.out.cell (World.block_lt_of_cell? w _ hw429_1)).trans hw429_1), ((HB.out.cell (World.block_lt_of_cell? w _ hw429_2)).trans hw429_2), ((HB.out.cell (World.block_lt_of_cell? w _ hw430_0)).trans hw430_0), ((HB.out.cell (World.block_lt_of_cell? w _ hw430_1)).trans hw430_1), ((HB.out.cell (World.block_lt_of_cell? w _ hw430_2)).trans hw430_2)⟩ (fun hHeld => ?_)
        clear hK K
        refine no 25 ?_
        refine pu 9 26 #[true, true, true, true, true, true, true, true, true, true] HT_ rfl rfl ?_
        refine done_ (done_of HT_.out (by kernel_rfl)) ?_
        try go_wp2
        go_roundg k1
        case measure => have := HK1.out; omega
        case rel => exact ⟨(wrap64 (x5_1 + 1)), (by first | rfl | (simp; done) | (simp [*]; done)), H', ⟨by have := HK1.out; omega⟩, ⟨bl⟩⟩
       ·replace c8 := Bool.eq_false_iff.mpr c8
        subst c8
        replace H := ie H
        obtain rfl := Option.some.inj H; clear H
        try go_wp2
        replace HB := Aside0.mk (below_drew1 HB.out)
        have p429 : 0 ≤ (x5_1 : Int) := od
        have q429 : x5_1 < (l0.length : Int) := od
        obtain ⟨ad429, A429_1, c429_1, A429_2, c429_2, e429, hx429_0, hx429_1, hx429_2, hl429_1, hi429_1, hl429_2, hi429_2⟩ := at_T70 HR0.out x5_1 p429 q429
        have hw429_2 := hx429_2
        have hw429_1 := hx429_1
        have hw429_0 := hx429_0
        cases e429
        obtain ⟨hx429_0,hx429_1,hx429_2⟩ := hc3 HB hx429_0 hx429_1 hx429_2
        have HR429_1 := Aside0.mk hi429_1
        have HC429_1 := Aside0.mk hl429_1
        clear hi429_1 hl429_1
        have HR429_2 := Aside0.mk hi429_2
        have HC429_2 := Aside0.mk hl429_2
        clear hi429_2 hl429_2
        replace p429 := eq_true p429
        replace q429 := eq_true q429
        have p430 : 0 ≤ (x5_1 : Int) := od
        have q430 : x5_1 < (l1.length : Int) := od
        obtain ⟨ad430, A430_1, c430_1, A430_2, c430_2, e430, hx430_0, hx430_1, hx430_2, hl430_1, hi430_1, hl430_2, hi430_2⟩ := at_T70 HR1.out x5_1 p430 q430
        have hw430_2 := hx430_2
        have hw430_1 := hx430_1
        have hw430_0 := hx430_0
        cases e430
        obtain ⟨hx430_0,hx430_1,hx430_2⟩ := hc3 HB hx430_0 hx430_1 hx430_2
        have HR430_1 := Aside0.mk hi430_1
        have HC430_1 := Aside0.mk hl430_1
        clear hi430_1 hl430_1
        have HR430_2 := Aside0.mk hi430_2
        have HC430_2 := Aside0.mk hl430_2
        clear hi430_2 hl430_2
        replace p430 := eq_true p430
        replace q430 := eq_true q430
        refine start_ (n := 10) (S := fun w' => w'.cell? (ad429.add ((x5_1).toNat * 3)) = some (.bool ((rd_T70 l0 x5_1).f0)) ∧ w'.cell? ⟨(ad429.add ((x5_1).toNat * 3)).block, (ad429.add ((x5_1).toNat * 3)).off + 1, none⟩ = some (.slice A429_1 ((rd_T70 l0 x5_1).f1).length c429_1) ∧ w'.cell? ⟨(ad429.add ((x5_1).toNat * 3)).block, (ad429.add ((x5_1).toNat * 3)).off + 2, none⟩ = some (.slice A429_2 ((rd_T70 l0 x5_1).f2).length c429_2) ∧ w'.cell? (ad430.add ((x5_1).toNat * 3)) = some (.bool ((rd_T70 l1 x5_1).f0)) ∧ w'.cell? ⟨(ad430.add ((x5_1).toNat * 3)).block, (ad430.add ((x5_1).toNat * 3)).off + 1, none⟩ = some (.slice A430_1 ((rd_T70 l1 x5_1).f1).length c430_1) ∧ w'.cell? ⟨(ad430.add ((x5_1).toNat * 3)).block, (ad430.add ((x5_1).toNat * 3)).off + 2, none⟩ = some (.slice A430_2 ((rd_T70 l1 x5_1).f2).length c430_2)) (ds := []) #[false, false, false, false, false, false, false, false, false, false] (by kernel_rfl) rfl rfl ⟨((HB.out.cell (World.block_lt_of_cell? w _ hw429_0)).trans hw429_0), ((HB.out.cell (World.block_lt_of_cell? w _ hw429_1)).trans hw429_1), ((HB.out.cell (World.block_lt_of_cell? w _ hw429_2)).trans hw429_2), ((HB.out.cell (World.block_lt_of_cell? w _ hw430_0)).trans hw430_0), ((HB.out.cell (World.block_lt_of_cell? w _ hw430_1)).trans hw430_1), ((HB.out.cell (World.block_lt_of_cell? w _ hw430_2)).trans hw430_2)⟩ (fun hHeld => ?_); refine with_tabW laws_eqShapeS.tab6 laws_eqShapeS.bits6 (fun HT_ HW_ => ?_)
        generalize wr.drew = w11 at HB HR429_1 HR429_2 HR430_1 HR430_2 hx429_0 hx429_1 hx429_2 hx430_0 hx430_1 hx430_2 hHeld ⊢
        refine pu 0 17 #[true, false, false, false, false, false, false, false, false, false] HT_ rfl rfl ?_
        refine pu 1 18 #[true, true, false, false, false, false, false, false, false, false] HT_ rfl rfl ?_
        refine pu 2 19 #[true, true, true, false, false, false, false, false, false, false] HT_ rfl rfl ?_
        refine pu 4 21 #[true, true, true, false, true, false, false, false, false, false] HT_ rfl rfl ?_
        refine pu 5 22 #[true, true, true, false, true, true, false, false, false, false] HT_ rfl rfl ?_
        refine pu 6 23 #[true, true, true, false, true, true, true, false, false, false] HT_ rfl rfl ?_
        refine ta 3 20 #[true, true, true, true, true, true, true, false, false, false] HT_ HW_ hHeld rfl rfl ?_
        refine ta 7 24 #[true, true, true, true, true, true, true, true, false, false] HT_ HW_ hHeld rfl rfl ?_
        refine one_ (i := 8) (N := some 25) #[true, true, true, true, true, true, true, true, true, false] rfl rfl (one_of HT_.out (by kernel_rfl)) (by decide) (fun K hK => ?_)
        refine gs Try.func74 #[.agg #[.bool ((rd_T70 l0 x5_1).f0), .slice A429_1 ((rd_T70 l0 x5_1).f1).length c429_1, .slice A429_2 ((rd_T70 l0 x5_1).f2).length c429_2], .agg #[.bool ((rd_T70 l1 x5_1).f0), .slice A430_1 ((rd_T70 l1 x5_1).f1).length c430_1, .slice A430_2 ((rd_T70 l1 x5_1).f2).length c430_2]] rfl rfl ?_
        with_reducible refine (laws_eqShape.calls k1 ((rd_T70 l0 x5_1).f0) _ _ ((rd_T70 l0 x5_1).f1) _ _ ((rd_T70 l0 x5_1).f2) ((rd_T70 l1 x5_1).f0) _ _ ((rd_T70 l1 x5_1).f1) _ _ ((rd_T70 l1 x5_1).f2) false _ ?side1 ?side2 ?side3 ?side4 ?side5 ?side6 ?side7 ?side8 A7.out).mono ?_
        (case side1 => exact cb HR429_1.out)
        (case side2 => exact HC429_1.out)
        (case side3 => exact cb HR429_2.out)
        (case side4 => exact HC429_2.out)
        (case side5 => exact cb HR430_1.out)
        (case side6 => exact HC430_1.out)
        (case side7 => exact cb HR430_2.out)
        (case side8 => exact HC430_2.out)
        rintro e w12 ⟨rfl, hb⟩
        refine ⟨_, rfl, ?_⟩
        replace HB := hs HB hb
        (try clear hb)
        (try clear hb2)
        (try clear hk)
        (try clear hi)
        refine hK.out _ _ ⟨((HB.out.cell (World.block_lt_of_cell? w _ hw429_0)).trans hw429_0), ((HB.out.cell (World.block_lt_of_cell? w _ hw429_1)).trans hw429_1), ((HB.out.cell (World.block_lt_of_cell? w _ hw429_2)).trans hw429_2), ((HB.out.cell (World.block_lt_of_cell? w _ hw430_0)).trans hw430_0), ((HB.out.cell (World.block_lt_of_cell? w _ hw430_1)).trans hw430_1), ((HB.out.cell (World.block_lt_of_cell? w _ hw430_2)).trans hw430_2)⟩ (fun hHeld => ?_)
        clear hK K
        refine no 25 ?_
        refine pu 9 26 #[true, true, true, true, true, true, true, true, true, true] HT_ rfl rfl ?_
        refine done_ (done_of HT_.out (by kernel_rfl)) ?_
        try go_wp2
        go_ret
        exact fin
      ·rw [if_neg c6] at H
       exact absurd H (by simp)
     ·rw [if_neg c5] at H
      exact absurd H (by simp)
    ·rw [if_neg c4] at H
     have c4b0 : decide (x5_1 < (l0.length : Int)) = false := decide_eq_false c4
     clear c4
     obtain rfl := Option.some.inj H; clear H
     go_wp2
     go_ret
     exact fin
 ·rw [if_neg c3] at H
  have c3b0 := beq_eq_false_iff_ne.mpr c3
  have c3b1 := bne_iff_ne.mpr c3
  have c3b2 : (l0.length == l1.length) = false := by first | simpa using c3 | (simp at c3 ⊢; omega)
  obtain rfl := Option.some.inj H; clear H
  go_enter Try.func67, Try.ntmps67
  go_wp2
  go_ret
  exact fin
end Go.Proofs.Ytedodaifpekahaa.P

end
section

namespace Go.Proofs.Ytedodaifpekahaa.P
open Go.RowKit Go.Proofs.YtedodaifpekahaaW.PrintWords Go.Proofs.YtedodaifpekahaaW.PrintLast Go.Proofs.YtedodaifpekahaaW.PrintMore
attribute [local go_sem] max2_int min2_int max_two min_two max_three min_three max_four min_four
set_option linter.unusedVariables false
set_option linter.unusedSimpArgs false
set_option maxHeartbeats 8000000 in
set_option maxRecDepth 100000 in
theorem laws_eqCatch.calls (a0_0 : Int) (a0_1 : Int) (a0_2 : Int) (a0_3 : Int) (a1_0 : Int) (a1_1 : Int) (a1_2 : Int) (a1_3 : Int) (r : Bool) (w : World) (h : laws_eqCatch.f a0_0 a0_1 a0_2 a0_3 a1_0 a1_1 a1_2 a1_3 = some r) :
  Calls Try.prog 75 #[.agg #[.int .i64 a0_0, .int .i64 a0_1, .int .i64 a0_2, .int .i64 a0_3], .agg #[.int .i64 a1_0, .int .i64 a1_1, .int .i64 a1_2, .int .i64 a1_3]] w fun e w' => e = .returned (.bool r) ∧ Below w.heap.size w w' := by
 have hu73 := Try.underlying73
 have HB := Aside0.mk (Below.refl w.heap.size w)
 have H : (if a0_0 = a1_0 then (if a0_1 = a1_1 then (if a0_2 = a1_2 then (if a0_3 = a1_3 then (some true) else (some false)) else (some false)) else (some false)) else (some false)) = some r := h
 clear h
 by_cases c3 : a0_0 = a1_0
 ·rw [if_pos c3] at H
  have c3b0 := beq_iff_eq.mpr c3
  have c3b1 := bne_eq_false_iff_eq.mpr c3
  clear c3
  by_cases c4 : a0_1 = a1_1
  ·rw [if_pos c4] at H
   have c4b0 := beq_iff_eq.mpr c4
   have c4b1 := bne_eq_false_iff_eq.mpr c4
   clear c4
   by_cases c5 : a0_2 = a1_2
   ·rw [if_pos c5] at H
    have c5b0 := beq_iff_eq.mpr c5
    have c5b1 := bne_eq_false_iff_eq.mpr c5
    clear c5
    by_cases c6 : a0_3 = a1_3
    ·rw [if_pos c6] at H
     have c6b0 := beq_iff_eq.mpr c6
     have c6b1 := bne_eq_false_iff_eq.mpr c6
     clear c6
     obtain rfl := Option.some.inj H; clear H
     go_enter Try.func75, Try.ntmps75
     go_wp2
     go_ret
     exact fin
    ·rw [if_neg c6] at H
     have c6b0 := beq_eq_false_iff_ne.mpr c6
     have c6b1 := bne_iff_ne.mpr c6
     obtain rfl := Option.some.inj H; clear H
     go_enter Try.func75, Try.ntmps75
     go_wp2
     go_ret
     exact fin
   ·rw [if_neg c5] at H
    have c5b0 := beq_eq_false_iff_ne.mpr c5
    have c5b1 := bne_iff_ne.mpr c5
    obtain rfl := Option.some.inj H; clear H
    go_enter Try.func75, Try.ntmps75
    go_wp2
    go_ret
    exact fin
  ·rw [if_neg c4] at H
   have c4b0 := beq_eq_false_iff_ne.mpr c4
   have c4b1 := bne_iff_ne.mpr c4
   obtain rfl := Option.some.inj H; clear H
   go_enter Try.func75, Try.ntmps75
   go_wp2
   go_ret
   exact fin
 ·rw [if_neg c3] at H
  have c3b0 := beq_eq_false_iff_ne.mpr c3
  have c3b1 := bne_iff_ne.mpr c3
  obtain rfl := Option.some.inj H; clear H
  go_enter Try.func75, Try.ntmps75
  go_wp2
  go_ret
  exact fin
end Go.Proofs.Ytedodaifpekahaa.P

end
section

namespace Go.Proofs.Ytedodaifpekahaa.P
open Go.RowKit Go.Proofs.YtedodaifpekahaaW.PrintWords Go.Proofs.YtedodaifpekahaaW.PrintLast Go.Proofs.YtedodaifpekahaaW.PrintMore
attribute [local go_sem] max2_int min2_int max_two min_two max_three min_three max_four min_four
set_option linter.unusedVariables false
set_option linter.unusedSimpArgs false
def laws_eqCatchS.T6 : Bool × List (List Nat × List Nat) := (true, [([], []), ([], []), ([0, 1], [0, 1]), ([2], [2]), ([], []), ([], []), ([4, 5], [4, 5]), ([6], [6]), ([3, 7], [3, 7]), ([8], [8])])
def laws_eqCatchS.B6 : List Nat := [0, 0, 3, 7, 0, 0, 48, 112, 255, 511]
theorem laws_eqCatchS.tab6 : rtab .any (opsOf Try.f68 6) = laws_eqCatchS.T6 := by kernel_rfl
theorem laws_eqCatchS.bits6 : waitsOk laws_eqCatchS.T6.2 laws_eqCatchS.B6 = true := by kernel_rfl
set_option maxHeartbeats 8000000 in
set_option maxRecDepth 100000 in
theorem laws_eqCatchS.calls (k : Nat) (A0 : Option Addr) (c0 : Nat) (l0 : List (S73)) (A1 : Option Addr) (c1 : Nat) (l1 : List (S73)) (r : Bool) (w : World) (hr0 : Kd.C k73 w A0 l0.length l0) (hc0 : l0.length ≤ c0) (hr1 : Kd.C k73 w A1 l1.length l1) (hc1 : l1.length ≤ c1) (h : laws_eqCatchS.f k l0 l1 = some r) :
  Calls Try.prog 68 #[.slice A0 l0.length c0, .slice A1 l1.length c1] w fun e w' => e = .returned (.bool r) ∧ Below w.heap.size w w' := by
 have hu73 := Try.underlying73
 have HR0 := Aside0.mk hr0
 have HC0 := Aside0.mk hc0
 clear hr0 hc0
 have HR1 := Aside0.mk hr1
 have HC1 := Aside0.mk hc1
 clear hr1 hc1
 have HB := Aside0.mk (Below.refl w.heap.size w)
 have H : (if (l0.length : Int) = (l1.length : Int) then (laws_eqCatchS.l0 k l0 l1 0) else (some false)) = some r := h
 clear h
 by_cases c3 : (l0.length : Int) = (l1.length : Int)
 ·rw [if_pos c3] at H
  have c3b0 := beq_iff_eq.mpr c3
  have c3b1 := bne_eq_false_iff_eq.mpr c3
  have c3b2 : (l0.length == l1.length) = true := by first | simpa using c3 | (simp at c3 ⊢; omega)
  clear c3
  have H' := Aside0.mk H
  clear H
  go_enter Try.func68, Try.ntmps68
  go_wp2
  go_loopg [5] k (fun kq v5 w' => ∃ (x5_1 : Int), v5 = .int .i64 x5_1 ∧ Aside0 (laws_eqCatchS.l0 kq l0 l1 x5_1 = some r) ∧ Aside0 (kq ≤ k) ∧ Aside0 (Below w.heap.size w w'))
  case atStart => exact ⟨(0), (by first | rfl | (simp; done) | (simp [*]; done)), H', ⟨Nat.le_refl _⟩, ⟨bl⟩⟩
  case round =>
   clear H'
   obtain ⟨x5_1, rfl, HA, HK1, HB⟩ := hrel
   cases gk with
   | zero => exact absurd HA.out (by simp [laws_eqCatchS.l0])
   | succ k1 =>
    have H := HA.out
    clear HA
    simp only [laws_eqCatchS.l0] at H
    by_cases c4 : x5_1 < (l0.length : Int)
    ·rw [if_pos c4] at H
     have c4b0 : decide (x5_1 < (l0.length : Int)) = true := decide_eq_true c4
     clear c4
     by_cases c5 : 0 ≤ x5_1
     ·rw [if_pos c5] at H
      have c5b0 : decide (0 ≤ x5_1) = true := decide_eq_true c5
      clear c5
      by_cases c6 : x5_1 < (l1.length : Int)
      ·rw [if_pos c6] at H
       have c6b0 : decide (x5_1 < (l1.length : Int)) = true := decide_eq_true c6
       clear c6
       obtain ⟨t436, A7, H⟩ := ob H
       by_cases c8 : t436 = true
       ·subst c8
        replace H := it H
        have H' := Aside0.mk H
        clear H
        try go_wp2
        replace HB := Aside0.mk (below_drew1 HB.out)
        have p434 : 0 ≤ (x5_1 : Int) := od
        have q434 : x5_1 < (l0.length : Int) := od
        obtain ⟨ad434, e434, hx434_0, hx434_1, hx434_2, hx434_3⟩ := at_T73 HR0.out x5_1 p434 q434
        have hw434_3 := hx434_3
        have hw434_2 := hx434_2
        have hw434_1 := hx434_1
        have hw434_0 := hx434_0
        cases e434
        obtain ⟨hx434_0,hx434_1,hx434_2,hx434_3⟩ := hc4 HB hx434_0 hx434_1 hx434_2 hx434_3
        replace p434 := eq_true p434
        replace q434 := eq_true q434
        have p435 : 0 ≤ (x5_1 : Int) := od
        have q435 : x5_1 < (l1.length : Int) := od
        obtain ⟨ad435, e435, hx435_0, hx435_1, hx435_2, hx435_3⟩ := at_T73 HR1.out x5_1 p435 q435
        have hw435_3 := hx435_3
        have hw435_2 := hx435_2
        have hw435_1 := hx435_1
        have hw435_0 := hx435_0
        cases e435
        obtain ⟨hx435_0,hx435_1,hx435_2,hx435_3⟩ := hc4 HB hx435_0 hx435_1 hx435_2 hx435_3
        replace p435 := eq_true p435
        replace q435 := eq_true q435
        refine start_ (n := 10) (S := fun w' => w'.cell? (ad434.add ((x5_1).toNat * 4)) = some (.int .i64 ((rd_T73 l0 x5_1).f0)) ∧ w'.cell? ⟨(ad434.add ((x5_1).toNat * 4)).block, (ad434.add ((x5_1).toNat * 4)).off + 1, none⟩ = some (.int .i64 ((rd_T73 l0 x5_1).f1)) ∧ w'.cell? ⟨(ad434.add ((x5_1).toNat * 4)).block, (ad434.add ((x5_1).toNat * 4)).off + 2, none⟩ = some (.int .i64 ((rd_T73 l0 x5_1).f2)) ∧ w'.cell? ⟨(ad434.add ((x5_1).toNat * 4)).block, (ad434.add ((x5_1).toNat * 4)).off + 3, none⟩ = some (.int .i64 ((rd_T73 l0 x5_1).f3)) ∧ w'.cell? (ad435.add ((x5_1).toNat * 4)) = some (.int .i64 ((rd_T73 l1 x5_1).f0)) ∧ w'.cell? ⟨(ad435.add ((x5_1).toNat * 4)).block, (ad435.add ((x5_1).toNat * 4)).off + 1, none⟩ = some (.int .i64 ((rd_T73 l1 x5_1).f1)) ∧ w'.cell? ⟨(ad435.add ((x5_1).toNat * 4)).block, (ad435.add ((x5_1).toNat * 4)).off + 2, none⟩ = some (.int .i64 ((rd_T73 l1 x5_1).f2)) ∧ w'.cell? ⟨(ad435.add ((x5_1).toNat * 4)).block, (ad435.add ((x5_1).toNat * 4)).off + 3, none⟩ = some (.int .i64 ((rd_T73 l1 x5_1).f3))) (ds := []) #[false, false, false, false, false, false, false, false, false, false] (by kernel_rfl) rfl rfl ⟨((HB.out.cell (World.block_lt_of_cell? w _ hw434_0)).trans hw434_0), ((HB.out.cell (World.block_lt_of_cell? w _ hw434_1)).trans hw434_1), ((HB.out.cell (World.block_lt_of_cell? w _ hw434_2)).trans hw434_2), ((HB.out.cell (World.block_lt_of_cell? w _ hw434_3)).trans hw434_3), ((HB.out.cell (World.block_lt_of_cell? w _ hw435_0)).trans hw435_0), ((HB.out.cell (World.block_lt_of_cell? w _ hw435_1)).trans hw435_1), ((HB.out.cell (World.block_lt_of_cell? w _ hw435_2)).trans hw435_2), ((HB.out.cell (World.block_lt_of_cell? w _ hw435_3)).trans hw435_3)⟩ (fun hHeld => ?_); refine with_tabW laws_eqCatchS.tab6 laws_eqCatchS.bits6 (fun HT_ HW_ => ?_)
        generalize wr.drew = w9 at HB hx434_0 hx434_1 hx434_2 hx434_3 hx435_0 hx435_1 hx435_2 hx435_3 hHeld ⊢
        refine pu 0 17 #[true, false, false, false, false, false, false, false, false, false] HT_ rfl rfl ?_
        refine pu 1 18 #[true, true, false, false, false, false, false, false, false, false] HT_ rfl rfl ?_
        refine pu 2 19 #[true, true, true, false, false, false, false, false, false, false] HT_ rfl rfl ?_
        refine pu 4 21 #[true, true, true, false, true, false, false, false, false, false] HT_ rfl rfl ?_
        refine pu 5 22 #[true, true, true, false, true, true, false, false, false, false] HT_ rfl rfl ?_
        refine pu 6 23 #[true, true, true, false, true, true, true, false, false, false] HT_ rfl rfl ?_
        refine ta 3 20 #[true, true, true, true, true, true, true, false, false, false] HT_ HW_ hHeld rfl rfl ?_
        refine ta 7 24 #[true, true, true, true, true, true, true, true, false, false] HT_ HW_ hHeld rfl rfl ?_
        refine one_ (i := 8) (N := some 25) #[true, true, true, true, true, true, true, true, true, false] rfl rfl (one_of HT_.out (by kernel_rfl)) (by decide) (fun K hK => ?_)
        refine gs Try.func75 #[.agg #[.int .i64 ((rd_T73 l0 x5_1).f0), .int .i64 ((rd_T73 l0 x5_1).f1), .int .i64 ((rd_T73 l0 x5_1).f2), .int .i64 ((rd_T73 l0 x5_1).f3)], .agg #[.int .i64 ((rd_T73 l1 x5_1).f0), .int .i64 ((rd_T73 l1 x5_1).f1), .int .i64 ((rd_T73 l1 x5_1).f2), .int .i64 ((rd_T73 l1 x5_1).f3)]] rfl rfl ?_
        with_reducible refine (laws_eqCatch.calls ((rd_T73 l0 x5_1).f0) ((rd_T73 l0 x5_1).f1) ((rd_T73 l0 x5_1).f2) ((rd_T73 l0 x5_1).f3) ((rd_T73 l1 x5_1).f0) ((rd_T73 l1 x5_1).f1) ((rd_T73 l1 x5_1).f2) ((rd_T73 l1 x5_1).f3) true _ A7.out).mono ?_
        rintro e w10 ⟨rfl, hb⟩
        refine ⟨_, rfl, ?_⟩
        replace HB := hs HB hb
        (try clear hb)
        (try clear hb2)
        (try clear hk)
        (try clear hi)
        refine hK.out _ _ ⟨((HB.out.cell (World.block_lt_of_cell? w _ hw434_0)).trans hw434_0), ((HB.out.cell (World.block_lt_of_cell? w _ hw434_1)).trans hw434_1), ((HB.out.cell (World.block_lt_of_cell? w _ hw434_2)).trans hw434_2), ((HB.out.cell (World.block_lt_of_cell? w _ hw434_3)).trans hw434_3), ((HB.out.cell (World.block_lt_of_cell? w _ hw435_0)).trans hw435_0), ((HB.out.cell (World.block_lt_of_cell? w _ hw435_1)).trans hw435_1), ((HB.out.cell (World.block_lt_of_cell? w _ hw435_2)).trans hw435_2), ((HB.out.cell (World.block_lt_of_cell? w _ hw435_3)).trans hw435_3)⟩ (fun hHeld => ?_)
        clear hK K
        refine no 25 ?_
        refine pu 9 26 #[true, true, true, true, true, true, true, true, true, true] HT_ rfl rfl ?_
        refine done_ (done_of HT_.out (by kernel_rfl)) ?_
        try go_wp2
        go_roundg k1
        case measure => have := HK1.out; omega
        case rel => exact ⟨(wrap64 (x5_1 + 1)), (by first | rfl | (simp; done) | (simp [*]; done)), H', ⟨by have := HK1.out; omega⟩, ⟨bl⟩⟩
       ·replace c8 := Bool.eq_false_iff.mpr c8
        subst c8
        replace H := ie H
        obtain rfl := Option.some.inj H; clear H
        try go_wp2
        replace HB := Aside0.mk (below_drew1 HB.out)
        have p434 : 0 ≤ (x5_1 : Int) := od
        have q434 : x5_1 < (l0.length : Int) := od
        obtain ⟨ad434, e434, hx434_0, hx434_1, hx434_2, hx434_3⟩ := at_T73 HR0.out x5_1 p434 q434
        have hw434_3 := hx434_3
        have hw434_2 := hx434_2
        have hw434_1 := hx434_1
        have hw434_0 := hx434_0
        cases e434
        obtain ⟨hx434_0,hx434_1,hx434_2,hx434_3⟩ := hc4 HB hx434_0 hx434_1 hx434_2 hx434_3
        replace p434 := eq_true p434
        replace q434 := eq_true q434
        have p435 : 0 ≤ (x5_1 : Int) := od
        have q435 : x5_1 < (l1.length : Int) := od
        obtain ⟨ad435, e435, hx435_0, hx435_1, hx435_2, hx435_3⟩ := at_T73 HR1.out x5_1 p435 q435
        have hw435_3 := hx435_3
        have hw435_2 := hx435_2
        have hw435_1 := hx435_1
        have hw435_0 := hx435_0
        cases e435
        obtain ⟨hx435_0,hx435_1,hx435_2,hx435_3⟩ := hc4 HB hx435_0 hx435_1 hx435_2 hx435_3
        replace p435 := eq_true p435
        replace q435 := eq_true q435
        refine start_ (n := 10) (S := fun w' => w'.cell? (ad434.add ((x5_1).toNat * 4)) = some (.int .i64 ((rd_T73 l0 x5_1).f0)) ∧ w'.cell? ⟨(ad434.add ((x5_1).toNat * 4)).block, (ad434.add ((x5_1).toNat * 4)).off + 1, none⟩ = some (.int .i64 ((rd_T73 l0 x5_1).f1)) ∧ w'.cell? ⟨(ad434.add ((x5_1).toNat * 4)).block, (ad434.add ((x5_1).toNat * 4)).off + 2, none⟩ = some (.int .i64 ((rd_T73 l0 x5_1).f2)) ∧ w'.cell? ⟨(ad434.add ((x5_1).toNat * 4)).block, (ad434.add ((x5_1).toNat * 4)).off + 3, none⟩ = some (.int .i64 ((rd_T73 l0 x5_1).f3)) ∧ w'.cell? (ad435.add ((x5_1).toNat * 4)) = some (.int .i64 ((rd_T73 l1 x5_1).f0)) ∧ w'.cell? ⟨(ad435.add ((x5_1).toNat * 4)).block, (ad435.add ((x5_1).toNat * 4)).off + 1, none⟩ = some (.int .i64 ((rd_T73 l1 x5_1).f1)) ∧ w'.cell? ⟨(ad435.add ((x5_1).toNat * 4)).block, (ad435.add ((x5_1).toNat * 4)).off + 2, none⟩ = some (.int .i64 ((rd_T73 l1 x5_1).f2)) ∧ w'.cell? ⟨(ad435.add ((x5_1).toNat * 4)).block, (ad435.add ((x5_1).toNat * 4)).off + 3, none⟩ = some (.int .i64 ((rd_T73 l1 x5_1).f3))) (ds := []) #[false, false, false, false, false, false, false, false, false, false] (by kernel_rfl) rfl rfl ⟨((HB.out.cell (World.block_lt_of_cell? w _ hw434_0)).trans hw434_0), ((HB.out.cell (World.block_lt_of_cell? w _ hw434_1)).trans hw434_1), ((HB.out.cell (World.block_lt_of_cell? w _ hw434_2)).trans hw434_2), ((HB.out.cell (World.block_lt_of_cell? w _ hw434_3)).trans hw434_3), ((HB.out.cell (World.block_lt_of_cell? w _ hw435_0)).trans hw435_0), ((HB.out.cell (World.block_lt_of_cell? w _ hw435_1)).trans hw435_1), ((HB.out.cell (World.block_lt_of_cell? w _ hw435_2)).trans hw435_2), ((HB.out.cell (World.block_lt_of_cell? w _ hw435_3)).trans hw435_3)⟩ (fun hHeld => ?_); refine with_tabW laws_eqCatchS.tab6 laws_eqCatchS.bits6 (fun HT_ HW_ => ?_)
        generalize wr.drew = w11 at HB hx434_0 hx434_1 hx434_2 hx434_3 hx435_0 hx435_1 hx435_2 hx435_3 hHeld ⊢
        refine pu 0 17 #[true, false, false, false, false, false, false, false, false, false] HT_ rfl rfl ?_
        refine pu 1 18 #[true, true, false, false, false, false, false, false, false, false] HT_ rfl rfl ?_
        refine pu 2 19 #[true, true, true, false, false, false, false, false, false, false] HT_ rfl rfl ?_
        refine pu 4 21 #[true, true, true, false, true, false, false, false, false, false] HT_ rfl rfl ?_
        refine pu 5 22 #[true, true, true, false, true, true, false, false, false, false] HT_ rfl rfl ?_
        refine pu 6 23 #[true, true, true, false, true, true, true, false, false, false] HT_ rfl rfl ?_
        refine ta 3 20 #[true, true, true, true, true, true, true, false, false, false] HT_ HW_ hHeld rfl rfl ?_
        refine ta 7 24 #[true, true, true, true, true, true, true, true, false, false] HT_ HW_ hHeld rfl rfl ?_
        refine one_ (i := 8) (N := some 25) #[true, true, true, true, true, true, true, true, true, false] rfl rfl (one_of HT_.out (by kernel_rfl)) (by decide) (fun K hK => ?_)
        refine gs Try.func75 #[.agg #[.int .i64 ((rd_T73 l0 x5_1).f0), .int .i64 ((rd_T73 l0 x5_1).f1), .int .i64 ((rd_T73 l0 x5_1).f2), .int .i64 ((rd_T73 l0 x5_1).f3)], .agg #[.int .i64 ((rd_T73 l1 x5_1).f0), .int .i64 ((rd_T73 l1 x5_1).f1), .int .i64 ((rd_T73 l1 x5_1).f2), .int .i64 ((rd_T73 l1 x5_1).f3)]] rfl rfl ?_
        with_reducible refine (laws_eqCatch.calls ((rd_T73 l0 x5_1).f0) ((rd_T73 l0 x5_1).f1) ((rd_T73 l0 x5_1).f2) ((rd_T73 l0 x5_1).f3) ((rd_T73 l1 x5_1).f0) ((rd_T73 l1 x5_1).f1) ((rd_T73 l1 x5_1).f2) ((rd_T73 l1 x5_1).f3) false _ A7.out).mono ?_
        rintro e w12 ⟨rfl, hb⟩
        refine ⟨_, rfl, ?_⟩
        replace HB := hs HB hb
        (try clear hb)
        (try clear hb2)
        (try clear hk)
        (try clear hi)
        refine hK.out _ _ ⟨((HB.out.cell (World.block_lt_of_cell? w _ hw434_0)).trans hw434_0), ((HB.out.cell (World.block_lt_of_cell? w _ hw434_1)).trans hw434_1), ((HB.out.cell (World.block_lt_of_cell? w _ hw434_2)).trans hw434_2), ((HB.out.cell (World.block_lt_of_cell? w _ hw434_3)).trans hw434_3), ((HB.out.cell (World.block_lt_of_cell? w _ hw435_0)).trans hw435_0), ((HB.out.cell (World.block_lt_of_cell? w _ hw435_1)).trans hw435_1), ((HB.out.cell (World.block_lt_of_cell? w _ hw435_2)).trans hw435_2), ((HB.out.cell (World.block_lt_of_cell? w _ hw435_3)).trans hw435_3)⟩ (fun hHeld => ?_)
        clear hK K
        refine no 25 ?_
        refine pu 9 26 #[true, true, true, true, true, true, true, true, true, true] HT_ rfl rfl ?_
        refine done_ (done_of HT_.out (by kernel_rfl)) ?_
        try go_wp2
        go_ret
        exact fin
      ·rw [if_neg c6] at H
       exact absurd H (by simp)
     ·rw [if_neg c5] at H
      exact absurd H (by simp)
    ·rw [if_neg c4] at H
     have c4b0 : decide (x5_1 < (l0.length : Int)) = false := decide_eq_false c4
     clear c4
     obtain rfl := Option.some.inj H; clear H
     go_wp2
     go_ret
     exact fin
 ·rw [if_neg c3] at H
  have c3b0 := beq_eq_false_iff_ne.mpr c3
  have c3b1 := bne_iff_ne.mpr c3
  have c3b2 : (l0.length == l1.length) = false := by first | simpa using c3 | (simp at c3 ⊢; omega)
  obtain rfl := Option.some.inj H; clear H
  go_enter Try.func68, Try.ntmps68
  go_wp2
  go_ret
  exact fin
end Go.Proofs.Ytedodaifpekahaa.P

end
section

namespace Go.Proofs.Ytedodaifpekahaa.P
open Go.RowKit Go.Proofs.YtedodaifpekahaaW.PrintWords Go.Proofs.YtedodaifpekahaaW.PrintLast Go.Proofs.YtedodaifpekahaaW.PrintMore
attribute [local go_sem] max2_int min2_int max_two min_two max_three min_three max_four min_four
set_option linter.unusedVariables false
set_option linter.unusedSimpArgs false
set_option maxHeartbeats 8000000 in
set_option maxRecDepth 100000 in
theorem laws_eqMethod.calls (k : Nat) (a0_0 : Int) (a0_1 : Int) (A0_2 : Option Addr) (c0_2 : Nat) (l0_2 : List Int) (a0_3 : Int) (a0_4 : Int) (A0_5 : Option Addr) (c0_5 : Nat) (l0_5 : List (S67)) (A0_6 : Option Addr) (c0_6 : Nat) (l0_6 : List (S70)) (A0_7 : Option Addr) (c0_7 : Nat) (l0_7 : List (S73)) (a1_0 : Int) (a1_1 : Int) (A1_2 : Option Addr) (c1_2 : Nat) (l1_2 : List Int) (a1_3 : Int) (a1_4 : Int) (A1_5 : Option Addr) (c1_5 : Nat) (l1_5 : List (S67)) (A1_6 : Option Addr) (c1_6 : Nat) (l1_6 : List (S70)) (A1_7 : Option Addr) (c1_7 : Nat) (l1_7 : List (S73)) (r : Bool) (w : World) (hr0_2 : Kd.C (Kd.int .i64) w A0_2 l0_2.length l0_2) (hc0_2 : l0_2.length ≤ c0_2) (hr0_5 : Kd.C k67 w A0_5 l0_5.length l0_5) (hc0_5 : l0_5.length ≤ c0_5) (hr0_6 : Kd.C k70 w A0_6 l0_6.length l0_6) (hc0_6 : l0_6.length ≤ c0_6) (hr0_7 : Kd.C k73 w A0_7 l0_7.length l0_7) (hc0_7 : l0_7.length ≤ c0_7) (hr1_2 : Kd.C (Kd.int .i64) w A1_2 l1_2.length l1_2) (hc1_2 : l1_2.length ≤ c1_2) (hr1_5 : Kd.C k67 w A1_5 l1_5.length l1_5) (hc1_5 : l1_5.length ≤ c1_5) (hr1_6 : Kd.C k70 w A1_6 l1_6.length l1_6) (hc1_6 : l1_6.length ≤ c1_6) (hr1_7 : Kd.C k73 w A1_7 l1_7.length l1_7) (hc1_7 : l1_7.length ≤ c1_7) (h : laws_eqMethod.f k a0_0 a0_1 l0_2 a0_3 a0_4 l0_5 l0_6 l0_7 a1_0 a1_1 l1_2 a1_3 a1_4 l1_5 l1_6 l1_7 = some r) :
  Calls Try.prog 49 #[.agg #[.int .i64 a0_0, .int .i64 a0_1, .slice A0_2 l0_2.length c0_2, .int .i64 a0_3, .int .i64 a0_4, .slice A0_5 l0_5.length c0_5, .slice A0_6 l0_6.length c0_6, .slice A0_7 l0_7.length c0_7], .agg #[.int .i64 a1_0, .int .i64 a1_1, .slice A1_2 l1_2.length c1_2, .int .i64 a1_3, .int .i64 a1_4, .slice A1_5 l1_5.length c1_5, .slice A1_6 l1_6.length c1_6, .slice A1_7 l1_7.length c1_7]] w fun e w' => e = .returned (.bool r) ∧ Below w.heap.size w w' := by
 have hu46 := Try.underlying46
 have HR0_2 := Aside0.mk hr0_2
 have HC0_2 := Aside0.mk hc0_2
 clear hr0_2 hc0_2
 have HR0_5 := Aside0.mk hr0_5
 have HC0_5 := Aside0.mk hc0_5
 clear hr0_5 hc0_5
 have HR0_6 := Aside0.mk hr0_6
 have HC0_6 := Aside0.mk hc0_6
 clear hr0_6 hc0_6
 have HR0_7 := Aside0.mk hr0_7
 have HC0_7 := Aside0.mk hc0_7
 clear hr0_7 hc0_7
 have HR1_2 := Aside0.mk hr1_2
 have HC1_2 := Aside0.mk hc1_2
 clear hr1_2 hc1_2
 have HR1_5 := Aside0.mk hr1_5
 have HC1_5 := Aside0.mk hc1_5
 clear hr1_5 hc1_5
 have HR1_6 := Aside0.mk hr1_6
 have HC1_6 := Aside0.mk hc1_6
 clear hr1_6 hc1_6
 have HR1_7 := Aside0.mk hr1_7
 have HC1_7 := Aside0.mk hc1_7
 clear hr1_7 hc1_7
 have HB := Aside0.mk (Below.refl w.heap.size w)
 have H : (if a0_0 = a1_0 then (if a0_1 = a1_1 then ((laws_eqIntS.f k l0_2 l1_2).bind fun t439 => (if t439 = true then (if a0_3 = a1_3 then (if a0_4 = a1_4 then ((laws_eqInsS.f k l0_5 l1_5).bind fun t440 => (if t440 = true then ((laws_eqShapeS.f k l0_6 l1_6).bind fun t441 => (if t441 = true then ((laws_eqCatchS.f k l0_7 l1_7).bind fun t442 => (if t442 = true then (some true) else (some false))) else (some false))) else (some false))) else (some false)) else (some false)) else (some false))) else (some false)) else (some false)) = some r := h
 clear h
 by_cases c3 : a0_0 = a1_0
 ·rw [if_pos c3] at H
  have c3b0 := beq_iff_eq.mpr c3
  have c3b1 := bne_eq_false_iff_eq.mpr c3
  clear c3
  by_cases c4 : a0_1 = a1_1
  ·rw [if_pos c4] at H
   have c4b0 := beq_iff_eq.mpr c4
   have c4b1 := bne_eq_false_iff_eq.mpr c4
   clear c4
   obtain ⟨t439, A5, H⟩ := ob H
   by_cases c6 : t439 = true
   ·subst c6
    replace H := it H
    by_cases c7 : a0_3 = a1_3
    ·rw [if_pos c7] at H
     have c7b0 := beq_iff_eq.mpr c7
     have c7b1 := bne_eq_false_iff_eq.mpr c7
     clear c7
     by_cases c8 : a0_4 = a1_4
     ·rw [if_pos c8] at H
      have c8b0 := beq_iff_eq.mpr c8
      have c8b1 := bne_eq_false_iff_eq.mpr c8
      clear c8
      obtain ⟨t440, A9, H⟩ := ob H
      by_cases c10 : t440 = true
      ·subst c10
       replace H := it H
       obtain ⟨t441, A11, H⟩ := ob H
       by_cases c12 : t441 = true
       ·subst c12
        replace H := it H
        obtain ⟨t442, A13, H⟩ := ob H
        by_cases c14 : t442 = true
        ·subst c14
         replace H := it H
         obtain rfl := Option.some.inj H; clear H
         go_enter Try.func49, Try.ntmps49
         go_wp2_with (first | ((with_reducible refine gd 2 rfl ?_); refine bx 2 #[.int .i64 a0_0, .int .i64 a0_1, .slice A0_2 l0_2.length c0_2, .int .i64 a0_3, .int .i64 a0_4, .slice A0_5 l0_5.length c0_5, .slice A0_6 l0_6.length c0_6, .slice A0_7 l0_7.length c0_7] 46 ?_; intro gb437 hg w15 hbox hb; have BK437 := Aside0.mk hbox; have GW437 := hz HB hg; have GE437 := hz HB hg; replace HB := hs HB hb; clear hb hbox hg) | ((with_reducible refine gd 3 rfl ?_); refine bx 3 #[.int .i64 a1_0, .int .i64 a1_1, .slice A1_2 l1_2.length c1_2, .int .i64 a1_3, .int .i64 a1_4, .slice A1_5 l1_5.length c1_5, .slice A1_6 l1_6.length c1_6, .slice A1_7 l1_7.length c1_7] 46 ?_; intro gb438 hg w16 hbox hb; have BK438 := Aside0.mk hbox; have GW438 := hz HB hg; have GE438 := hz HB hg; have NB437_438 := nl BK437 hg; have NB438_437 := ng BK437 hg; replace BK437 := kb BK437 hb; replace HB := hs HB hb; clear hb hbox hg; have hnb17 := NB437_438.out; have hnc17 := NB438_437.out; obtain ⟨_,_,_,_,_,_,_,_,_,_,_,_,_,_,_,_⟩ := cf8 BK437; obtain ⟨_,_,_,_,_,_,_,_,_,_,_,_,_,_,_,_⟩ := cf8 BK438) | ((with_reducible refine gc 65 rfl ?_); refine gl (some 19) Try.func65 #[.slice A0_2 l0_2.length c0_2, .slice A1_2 l1_2.length c1_2] rfl ?_; (with_reducible refine (laws_eqIntS.calls k _ _ l0_2 _ _ l1_2 true _ ?side1 ?side2 ?side3 ?side4 A5.out).mono ?_); (case side1 => exact cb HR0_2.out); (case side2 => exact HC0_2.out); (case side3 => exact cb HR1_2.out); (case side4 => exact HC1_2.out); rintro e w' ⟨rfl, ⟨nd, rfl⟩⟩; refine ⟨_, rfl, ?_⟩) | ((with_reducible refine gc 66 rfl ?_); refine gl (some 35) Try.func66 #[.slice A0_5 l0_5.length c0_5, .slice A1_5 l1_5.length c1_5] rfl ?_; (with_reducible refine (laws_eqInsS.calls k _ _ l0_5 _ _ l1_5 true _ ?side1 ?side2 ?side3 ?side4 A9.out).mono ?_); (case side1 => exact cb HR0_5.out); (case side2 => exact HC0_5.out); (case side3 => exact cb HR1_5.out); (case side4 => exact HC1_5.out); rintro e w20 ⟨rfl, hb⟩; refine ⟨_, rfl, ?_⟩; replace BK437 := kb BK437 hb; replace BK438 := kb BK438 hb; replace HB := hs HB hb; (try clear hb); obtain ⟨_,_,_,_,_,_,_,_,_,_,_,_,_,_,_,_⟩ := cf8 BK437; obtain ⟨_,_,_,_,_,_,_,_,_,_,_,_,_,_,_,_⟩ := cf8 BK438) | ((with_reducible refine gc 67 rfl ?_); refine gl (some 41) Try.func67 #[.slice A0_6 l0_6.length c0_6, .slice A1_6 l1_6.length c1_6] rfl ?_; (with_reducible refine (laws_eqShapeS.calls k _ _ l0_6 _ _ l1_6 true _ ?side1 ?side2 ?side3 ?side4 A11.out).mono ?_); (case side1 => exact cb HR0_6.out); (case side2 => exact HC0_6.out); (case side3 => exact cb HR1_6.out); (case side4 => exact HC1_6.out); rintro e w23 ⟨rfl, hb⟩; refine ⟨_, rfl, ?_⟩; replace BK437 := kb BK437 hb; replace BK438 := kb BK438 hb; replace HB := hs HB hb; (try clear hb); obtain ⟨_,_,_,_,_,_,_,_,_,_,_,_,_,_,_,_⟩ := cf8 BK437; obtain ⟨_,_,_,_,_,_,_,_,_,_,_,_,_,_,_,_⟩ := cf8 BK438) | ((with_reducible refine gc 68 rfl ?_); refine gl (some 47) Try.func68 #[.slice A0_7 l0_7.length c0_7, .slice A1_7 l1_7.length c1_7] rfl ?_; (with_reducible refine (laws_eqCatchS.calls k _ _ l0_7 _ _ l1_7 true _ ?side1 ?side2 ?side3 ?side4 A13.out).mono ?_); (case side1 => exact cb HR0_7.out); (case side2 => exact HC0_7.out); (case side3 => exact cb HR1_7.out); (case side4 => exact HC1_7.out); rintro e w26 ⟨rfl, hb⟩; refine ⟨_, rfl, ?_⟩; replace BK437 := kb BK437 hb; replace BK438 := kb BK438 hb; replace HB := hs HB hb; (try clear hb)))
         go_ret
         exact fin
        ·replace c14 := Bool.eq_false_iff.mpr c14
         subst c14
         replace H := ie H
         obtain rfl := Option.some.inj H; clear H
         go_enter Try.func49, Try.ntmps49
         go_wp2_with (first | ((with_reducible refine gd 2 rfl ?_); refine bx 2 #[.int .i64 a0_0, .int .i64 a0_1, .slice A0_2 l0_2.length c0_2, .int .i64 a0_3, .int .i64 a0_4, .slice A0_5 l0_5.length c0_5, .slice A0_6 l0_6.length c0_6, .slice A0_7 l0_7.length c0_7] 46 ?_; intro gb437 hg w27 hbox hb; have BK437 := Aside0.mk hbox; have GW437 := hz HB hg; have GE437 := hz HB hg; replace HB := hs HB hb; clear hb hbox hg) | ((with_reducible refine gd 3 rfl ?_); refine bx 3 #[.int .i64 a1_0, .int .i64 a1_1, .slice A1_2 l1_2.length c1_2, .int .i64 a1_3, .int .i64 a1_4, .slice A1_5 l1_5.length c1_5, .slice A1_6 l1_6.length c1_6, .slice A1_7 l1_7.length c1_7] 46 ?_; intro gb438 hg w28 hbox hb; have BK438 := Aside0.mk hbox; have GW438 := hz HB hg; have GE438 := hz HB hg; have NB437_438 := nl BK437 hg; have NB438_437 := ng BK437 hg; replace BK437 := kb BK437 hb; replace HB := hs HB hb; clear hb hbox hg; have hnb29 := NB437_438.out; have hnc29 := NB438_437.out; obtain ⟨_,_,_,_,_,_,_,_,_,_,_,_,_,_,_,_⟩ := cf8 BK437; obtain ⟨_,_,_,_,_,_,_,_,_,_,_,_,_,_,_,_⟩ := cf8 BK438) | ((with_reducible refine gc 65 rfl ?_); refine gl (some 19) Try.func65 #[.slice A0_2 l0_2.length c0_2, .slice A1_2 l1_2.length c1_2] rfl ?_; (with_reducible refine (laws_eqIntS.calls k _ _ l0_2 _ _ l1_2 true _ ?side1 ?side2 ?side3 ?side4 A5.out).mono ?_); (case side1 => exact cb HR0_2.out); (case side2 => exact HC0_2.out); (case side3 => exact cb HR1_2.out); (case side4 => exact HC1_2.out); rintro e w' ⟨rfl, ⟨nd, rfl⟩⟩; refine ⟨_, rfl, ?_⟩) | ((with_reducible refine gc 66 rfl ?_); refine gl (some 35) Try.func66 #[.slice A0_5 l0_5.length c0_5, .slice A1_5 l1_5.length c1_5] rfl ?_; (with_reducible refine (laws_eqInsS.calls k _ _ l0_5 _ _ l1_5 true _ ?side1 ?side2 ?side3 ?side4 A9.out).mono ?_); (case side1 => exact cb HR0_5.out); (case side2 => exact HC0_5.out); (case side3 => exact cb HR1_5.out); (case side4 => exact HC1_5.out); rintro e w32 ⟨rfl, hb⟩; refine ⟨_, rfl, ?_⟩; replace BK437 := kb BK437 hb; replace BK438 := kb BK438 hb; replace HB := hs HB hb; (try clear hb); obtain ⟨_,_,_,_,_,_,_,_,_,_,_,_,_,_,_,_⟩ := cf8 BK437; obtain ⟨_,_,_,_,_,_,_,_,_,_,_,_,_,_,_,_⟩ := cf8 BK438) | ((with_reducible refine gc 67 rfl ?_); refine gl (some 41) Try.func67 #[.slice A0_6 l0_6.length c0_6, .slice A1_6 l1_6.length c1_6] rfl ?_; (with_reducible refine (laws_eqShapeS.calls k _ _ l0_6 _ _ l1_6 true _ ?side1 ?side2 ?side3 ?side4 A11.out).mono ?_); (case side1 => exact cb HR0_6.out); (case side2 => exact HC0_6.out); (case side3 => exact cb HR1_6.out); (case side4 => exact HC1_6.out); rintro e w35 ⟨rfl, hb⟩; refine ⟨_, rfl, ?_⟩; replace BK437 := kb BK437 hb; replace BK438 := kb BK438 hb; replace HB := hs HB hb; (try clear hb); obtain ⟨_,_,_,_,_,_,_,_,_,_,_,_,_,_,_,_⟩ := cf8 BK437; obtain ⟨_,_,_,_,_,_,_,_,_,_,_,_,_,_,_,_⟩ := cf8 BK438) | ((with_reducible refine gc 68 rfl ?_); refine gl (some 47) Try.func68 #[.slice A0_7 l0_7.length c0_7, .slice A1_7 l1_7.length c1_7] rfl ?_; (with_reducible refine (laws_eqCatchS.calls k _ _ l0_7 _ _ l1_7 false _ ?side1 ?side2 ?side3 ?side4 A13.out).mono ?_); (case side1 => exact cb HR0_7.out); (case side2 => exact HC0_7.out); (case side3 => exact cb HR1_7.out); (case side4 => exact HC1_7.out); rintro e w38 ⟨rfl, hb⟩; refine ⟨_, rfl, ?_⟩; replace BK437 := kb BK437 hb; replace BK438 := kb BK438 hb; replace HB := hs HB hb; (try clear hb)))
         go_ret
         exact fin
       ·replace c12 := Bool.eq_false_iff.mpr c12
        subst c12
        replace H := ie H
        obtain rfl := Option.some.inj H; clear H
        go_enter Try.func49, Try.ntmps49
        go_wp2_with (first | ((with_reducible refine gd 2 rfl ?_); refine bx 2 #[.int .i64 a0_0, .int .i64 a0_1, .slice A0_2 l0_2.length c0_2, .int .i64 a0_3, .int .i64 a0_4, .slice A0_5 l0_5.length c0_5, .slice A0_6 l0_6.length c0_6, .slice A0_7 l0_7.length c0_7] 46 ?_; intro gb437 hg w39 hbox hb; have BK437 := Aside0.mk hbox; have GW437 := hz HB hg; have GE437 := hz HB hg; replace HB := hs HB hb; clear hb hbox hg) | ((with_reducible refine gd 3 rfl ?_); refine bx 3 #[.int .i64 a1_0, .int .i64 a1_1, .slice A1_2 l1_2.length c1_2, .int .i64 a1_3, .int .i64 a1_4, .slice A1_5 l1_5.length c1_5, .slice A1_6 l1_6.length c1_6, .slice A1_7 l1_7.length c1_7] 46 ?_; intro gb438 hg w40 hbox hb; have BK438 := Aside0.mk hbox; have GW438 := hz HB hg; have GE438 := hz HB hg; have NB437_438 := nl BK437 hg; have NB438_437 := ng BK437 hg; replace BK437 := kb BK437 hb; replace HB := hs HB hb; clear hb hbox hg; have hnb41 := NB437_438.out; have hnc41 := NB438_437.out; obtain ⟨_,_,_,_,_,_,_,_,_,_,_,_,_,_,_,_⟩ := cf8 BK437; obtain ⟨_,_,_,_,_,_,_,_,_,_,_,_,_,_,_,_⟩ := cf8 BK438) | ((with_reducible refine gc 65 rfl ?_); refine gl (some 19) Try.func65 #[.slice A0_2 l0_2.length c0_2, .slice A1_2 l1_2.length c1_2] rfl ?_; (with_reducible refine (laws_eqIntS.calls k _ _ l0_2 _ _ l1_2 true _ ?side1 ?side2 ?side3 ?side4 A5.out).mono ?_); (case side1 => exact cb HR0_2.out); (case side2 => exact HC0_2.out); (case side3 => exact cb HR1_2.out); (case side4 => exact HC1_2.out); rintro e w' ⟨rfl, ⟨nd, rfl⟩⟩; refine ⟨_, rfl, ?_⟩) | ((with_reducible refine gc 66 rfl ?_); refine gl (some 35) Try.func66 #[.slice A0_5 l0_5.length c0_5, .slice A1_5 l1_5.length c1_5] rfl ?_; (with_reducible refine (laws_eqInsS.calls k _ _ l0_5 _ _ l1_5 true _ ?side1 ?side2 ?side3 ?side4 A9.out).mono ?_); (case side1 => exact cb HR0_5.out); (case side2 => exact HC0_5.out); (case side3 => exact cb HR1_5.out); (case side4 => exact HC1_5.out); rintro e w44 ⟨rfl, hb⟩; refine ⟨_, rfl, ?_⟩; replace BK437 := kb BK437 hb; replace BK438 := kb BK438 hb; replace HB := hs HB hb; (try clear hb); obtain ⟨_,_,_,_,_,_,_,_,_,_,_,_,_,_,_,_⟩ := cf8 BK437; obtain ⟨_,_,_,_,_,_,_,_,_,_,_,_,_,_,_,_⟩ := cf8 BK438) | ((with_reducible refine gc 67 rfl ?_); refine gl (some 41) Try.func67 #[.slice A0_6 l0_6.length c0_6, .slice A1_6 l1_6.length c1_6] rfl ?_; (with_reducible refine (laws_eqShapeS.calls k _ _ l0_6 _ _ l1_6 false _ ?side1 ?side2 ?side3 ?side4 A11.out).mono ?_); (case side1 => exact cb HR0_6.out); (case side2 => exact HC0_6.out); (case side3 => exact cb HR1_6.out); (case side4 => exact HC1_6.out); rintro e w47 ⟨rfl, hb⟩; refine ⟨_, rfl, ?_⟩; replace BK437 := kb BK437 hb; replace BK438 := kb BK438 hb; replace HB := hs HB hb; (try clear hb)))
        go_ret
        exact fin
      ·replace c10 := Bool.eq_false_iff.mpr c10
       subst c10
       replace H := ie H
       obtain rfl := Option.some.inj H; clear H
       go_enter Try.func49, Try.ntmps49
       go_wp2_with (first | ((with_reducible refine gd 2 rfl ?_); refine bx 2 #[.int .i64 a0_0, .int .i64 a0_1, .slice A0_2 l0_2.length c0_2, .int .i64 a0_3, .int .i64 a0_4, .slice A0_5 l0_5.length c0_5, .slice A0_6 l0_6.length c0_6, .slice A0_7 l0_7.length c0_7] 46 ?_; intro gb437 hg w48 hbox hb; have BK437 := Aside0.mk hbox; have GW437 := hz HB hg; have GE437 := hz HB hg; replace HB := hs HB hb; clear hb hbox hg) | ((with_reducible refine gd 3 rfl ?_); refine bx 3 #[.int .i64 a1_0, .int .i64 a1_1, .slice A1_2 l1_2.length c1_2, .int .i64 a1_3, .int .i64 a1_4, .slice A1_5 l1_5.length c1_5, .slice A1_6 l1_6.length c1_6, .slice A1_7 l1_7.length c1_7] 46 ?_; intro gb438 hg w49 hbox hb; have BK438 := Aside0.mk hbox; have GW438 := hz HB hg; have GE438 := hz HB hg; have NB437_438 := nl BK437 hg; have NB438_437 := ng BK437 hg; replace BK437 := kb BK437 hb; replace HB := hs HB hb; clear hb hbox hg; have hnb50 := NB437_438.out; have hnc50 := NB438_437.out; obtain ⟨_,_,_,_,_,_,_,_,_,_,_,_,_,_,_,_⟩ := cf8 BK437; obtain ⟨_,_,_,_,_,_,_,_,_,_,_,_,_,_,_,_⟩ := cf8 BK438) | ((with_reducible refine gc 65 rfl ?_); refine gl (some 19) Try.func65 #[.slice A0_2 l0_2.length c0_2, .slice A1_2 l1_2.length c1_2] rfl ?_; (with_reducible refine (laws_eqIntS.calls k _ _ l0_2 _ _ l1_2 true _ ?side1 ?side2 ?side3 ?side4 A5.out).mono ?_); (case side1 => exact cb HR0_2.out); (case side2 => exact HC0_2.out); (case side3 => exact cb HR1_2.out); (case side4 => exact HC1_2.out); rintro e w' ⟨rfl, ⟨nd, rfl⟩⟩; refine ⟨_, rfl, ?_⟩) | ((with_reducible refine gc 66 rfl ?_); refine gl (some 35) Try.func66 #[.slice A0_5 l0_5.length c0_5, .slice A1_5 l1_5.length c1_5] rfl ?_; (with_reducible refine (laws_eqInsS.calls k _ _ l0_5 _ _ l1_5 false _ ?side1 ?side2 ?side3 ?side4 A9.out).mono ?_); (case side1 => exact cb HR0_5.out); (case side2 => exact HC0_5.out); (case side3 => exact cb HR1_5.out); (case side4 => exact HC1_5.out); rintro e w53 ⟨rfl, hb⟩; refine ⟨_, rfl, ?_⟩; replace BK437 := kb BK437 hb; replace BK438 := kb BK438 hb; replace HB := hs HB hb; (try clear hb)))
       go_ret
       exact fin
     ·rw [if_neg c8] at H
      have c8b0 := beq_eq_false_iff_ne.mpr c8
      have c8b1 := bne_iff_ne.mpr c8
      obtain rfl := Option.some.inj H; clear H
      go_enter Try.func49, Try.ntmps49
      go_wp2_with (first | ((with_reducible refine gc 65 rfl ?_); refine gl (some 19) Try.func65 #[.slice A0_2 l0_2.length c0_2, .slice A1_2 l1_2.length c1_2] rfl ?_; (with_reducible refine (laws_eqIntS.calls k _ _ l0_2 _ _ l1_2 true _ ?side1 ?side2 ?side3 ?side4 A5.out).mono ?_); (case side1 => exact cb HR0_2.out); (case side2 => exact HC0_2.out); (case side3 => exact cb HR1_2.out); (case side4 => exact HC1_2.out); rintro e w' ⟨rfl, ⟨nd, rfl⟩⟩; refine ⟨_, rfl, ?_⟩))
      go_ret
      exact fin
    ·rw [if_neg c7] at H
     have c7b0 := beq_eq_false_iff_ne.mpr c7
     have c7b1 := bne_iff_ne.mpr c7
     obtain rfl := Option.some.inj H; clear H
     go_enter Try.func49, Try.ntmps49
     go_wp2_with (first | ((with_reducible refine gc 65 rfl ?_); refine gl (some 19) Try.func65 #[.slice A0_2 l0_2.length c0_2, .slice A1_2 l1_2.length c1_2] rfl ?_; (with_reducible refine (laws_eqIntS.calls k _ _ l0_2 _ _ l1_2 true _ ?side1 ?side2 ?side3 ?side4 A5.out).mono ?_); (case side1 => exact cb HR0_2.out); (case side2 => exact HC0_2.out); (case side3 => exact cb HR1_2.out); (case side4 => exact HC1_2.out); rintro e w' ⟨rfl, ⟨nd, rfl⟩⟩; refine ⟨_, rfl, ?_⟩))
     go_ret
     exact fin
   ·replace c6 := Bool.eq_false_iff.mpr c6
    subst c6
    replace H := ie H
    obtain rfl := Option.some.inj H; clear H
    go_enter Try.func49, Try.ntmps49
    go_wp2_with (first | ((with_reducible refine gc 65 rfl ?_); refine gl (some 19) Try.func65 #[.slice A0_2 l0_2.length c0_2, .slice A1_2 l1_2.length c1_2] rfl ?_; (with_reducible refine (laws_eqIntS.calls k _ _ l0_2 _ _ l1_2 false _ ?side1 ?side2 ?side3 ?side4 A5.out).mono ?_); (case side1 => exact cb HR0_2.out); (case side2 => exact HC0_2.out); (case side3 => exact cb HR1_2.out); (case side4 => exact HC1_2.out); rintro e w' ⟨rfl, ⟨nd, rfl⟩⟩; refine ⟨_, rfl, ?_⟩))
    go_ret
    exact fin
  ·rw [if_neg c4] at H
   have c4b0 := beq_eq_false_iff_ne.mpr c4
   have c4b1 := bne_iff_ne.mpr c4
   obtain rfl := Option.some.inj H; clear H
   go_enter Try.func49, Try.ntmps49
   go_wp2
   go_ret
   exact fin
 ·rw [if_neg c3] at H
  have c3b0 := beq_eq_false_iff_ne.mpr c3
  have c3b1 := bne_iff_ne.mpr c3
  obtain rfl := Option.some.inj H; clear H
  go_enter Try.func49, Try.ntmps49
  go_wp2
  go_ret
  exact fin
end Go.Proofs.Ytedodaifpekahaa.P

end
section

namespace Go.Proofs.Ytedodaifpekahaa.P
open Go.RowKit Go.Proofs.YtedodaifpekahaaW.PrintWords Go.Proofs.YtedodaifpekahaaW.PrintLast Go.Proofs.YtedodaifpekahaaW.PrintMore
attribute [local go_sem] max2_int min2_int max_two min_two max_three min_three max_four min_four
set_option linter.unusedVariables false
set_option linter.unusedSimpArgs false
def laws_eqMethodS.T6 : Bool × List (List Nat × List Nat) := (true, [([], []), ([], []), ([0, 1], [0, 1]), ([2], [2]), ([], []), ([], []), ([4, 5], [4, 5]), ([6], [6]), ([3, 7], [3, 7]), ([8], [8])])
def laws_eqMethodS.B6 : List Nat := [0, 0, 3, 7, 0, 0, 48, 112, 255, 511]
theorem laws_eqMethodS.tab6 : rtab .any (opsOf Try.f27 6) = laws_eqMethodS.T6 := by kernel_rfl
theorem laws_eqMethodS.bits6 : waitsOk laws_eqMethodS.T6.2 laws_eqMethodS.B6 = true := by kernel_rfl
set_option maxHeartbeats 8000000 in
set_option maxRecDepth 100000 in
theorem laws_eqMethodS.calls (k : Nat) (A0 : Option Addr) (c0 : Nat) (l0 : List (S46)) (A1 : Option Addr) (c1 : Nat) (l1 : List (S46)) (r : Bool) (w : World) (hr0 : Kd.C k46 w A0 l0.length l0) (hc0 : l0.length ≤ c0) (hr1 : Kd.C k46 w A1 l1.length l1) (hc1 : l1.length ≤ c1) (h : laws_eqMethodS.f k l0 l1 = some r) :
  Calls Try.prog 27 #[.slice A0 l0.length c0, .slice A1 l1.length c1] w fun e w' => e = .returned (.bool r) ∧ Below w.heap.size w w' := by
 have hu46 := Try.underlying46
 have HR0 := Aside0.mk hr0
 have HC0 := Aside0.mk hc0
 clear hr0 hc0
 have HR1 := Aside0.mk hr1
 have HC1 := Aside0.mk hc1
 clear hr1 hc1
 have HB := Aside0.mk (Below.refl w.heap.size w)
 have H : (if (l0.length : Int) = (l1.length : Int) then (laws_eqMethodS.l0 k l0 l1 0) else (some false)) = some r := h
 clear h
 by_cases c3 : (l0.length : Int) = (l1.length : Int)
 ·rw [if_pos c3] at H
  have c3b0 := beq_iff_eq.mpr c3
  have c3b1 := bne_eq_false_iff_eq.mpr c3
  have c3b2 : (l0.length == l1.length) = true := by first | simpa using c3 | (simp at c3 ⊢; omega)
  clear c3
  have H' := Aside0.mk H
  clear H
  go_enter Try.func27, Try.ntmps27
  go_wp2
  go_loopg [5] k (fun kq v5 w' => ∃ (x5_1 : Int), v5 = .int .i64 x5_1 ∧ Aside0 (laws_eqMethodS.l0 kq l0 l1 x5_1 = some r) ∧ Aside0 (kq ≤ k) ∧ Aside0 (Below w.heap.size w w'))
  case atStart => exact ⟨(0), (by first | rfl | (simp; done) | (simp [*]; done)), H', ⟨Nat.le_refl _⟩, ⟨bl⟩⟩
  case round =>
   clear H'
   obtain ⟨x5_1, rfl, HA, HK1, HB⟩ := hrel
   cases gk with
   | zero => exact absurd HA.out (by simp [laws_eqMethodS.l0])
   | succ k1 =>
    have H := HA.out
    clear HA
    simp only [laws_eqMethodS.l0] at H
    by_cases c4 : x5_1 < (l0.length : Int)
    ·rw [if_pos c4] at H
     have c4b0 : decide (x5_1 < (l0.length : Int)) = true := decide_eq_true c4
     clear c4
     by_cases c5 : 0 ≤ x5_1
     ·rw [if_pos c5] at H
      have c5b0 : decide (0 ≤ x5_1) = true := decide_eq_true c5
      clear c5
      by_cases c6 : x5_1 < (l1.length : Int)
      ·rw [if_pos c6] at H
       have c6b0 : decide (x5_1 < (l1.length : Int)) = true := decide_eq_true c6
       clear c6
       obtain ⟨t445, A7, H⟩ := ob H
       by_cases c8 : t445 = true
       ·subst c8
        replace H := it H
        have H' := Aside0.mk H
        clear H
        try go_wp2
        replace HB := Aside0.mk (below_drew1 HB.out)
        have p443 : 0 ≤ (x5_1 : Int) := od
        have q443 : x5_1 < (l0.length : Int) := od
        obtain ⟨ad443, A443_2, c443_2, A443_5, c443_5, A443_6, c443_6, A443_7, c443_7, e443, hx443_0, hx443_1, hx443_2, hx443_3, hx443_4, hx443_5, hx443_6, hx443_7, hl443_2, hi443_2, hl443_5, hi443_5, hl443_6, hi443_6, hl443_7, hi443_7⟩ := at_T46 HR0.out x5_1 p443 q443
        have hw443_7 := hx443_7
        have hw443_6 := hx443_6
        have hw443_5 := hx443_5
        have hw443_4 := hx443_4
        have hw443_3 := hx443_3
        have hw443_2 := hx443_2
        have hw443_1 := hx443_1
        have hw443_0 := hx443_0
        cases e443
        obtain ⟨hx443_0,hx443_1,hx443_2,hx443_3,hx443_4,hx443_5,hx443_6,hx443_7⟩ := hc8 HB hx443_0 hx443_1 hx443_2 hx443_3 hx443_4 hx443_5 hx443_6 hx443_7
        have HR443_2 := Aside0.mk hi443_2
        have HC443_2 := Aside0.mk hl443_2
        clear hi443_2 hl443_2
        have HR443_5 := Aside0.mk hi443_5
        have HC443_5 := Aside0.mk hl443_5
        clear hi443_5 hl443_5
        have HR443_6 := Aside0.mk hi443_6
        have HC443_6 := Aside0.mk hl443_6
        clear hi443_6 hl443_6
        have HR443_7 := Aside0.mk hi443_7
        have HC443_7 := Aside0.mk hl443_7
        clear hi443_7 hl443_7
        replace p443 := eq_true p443
        replace q443 := eq_true q443
        have p444 : 0 ≤ (x5_1 : Int) := od
        have q444 : x5_1 < (l1.length : Int) := od
        obtain ⟨ad444, A444_2, c444_2, A444_5, c444_5, A444_6, c444_6, A444_7, c444_7, e444, hx444_0, hx444_1, hx444_2, hx444_3, hx444_4, hx444_5, hx444_6, hx444_7, hl444_2, hi444_2, hl444_5, hi444_5, hl444_6, hi444_6, hl444_7, hi444_7⟩ := at_T46 HR1.out x5_1 p444 q444
        have hw444_7 := hx444_7
        have hw444_6 := hx444_6
        have hw444_5 := hx444_5
        have hw444_4 := hx444_4
        have hw444_3 := hx444_3
        have hw444_2 := hx444_2
        have hw444_1 := hx444_1
        have hw444_0 := hx444_0
        cases e444
        obtain ⟨hx444_0,hx444_1,hx444_2,hx444_3,hx444_4,hx444_5,hx444_6,hx444_7⟩ := hc8 HB hx444_0 hx444_1 hx444_2 hx444_3 hx444_4 hx444_5 hx444_6 hx444_7
        have HR444_2 := Aside0.mk hi444_2
        have HC444_2 := Aside0.mk hl444_2
        clear hi444_2 hl444_2
        have HR444_5 := Aside0.mk hi444_5
        have HC444_5 := Aside0.mk hl444_5
        clear hi444_5 hl444_5
        have HR444_6 := Aside0.mk hi444_6
        have HC444_6 := Aside0.mk hl444_6
        clear hi444_6 hl444_6
        have HR444_7 := Aside0.mk hi444_7
        have HC444_7 := Aside0.mk hl444_7
        clear hi444_7 hl444_7
        replace p444 := eq_true p444
        replace q444 := eq_true q444
        refine start_ (n := 10) (S := fun w' => w'.cell? (ad443.add ((x5_1).toNat * 8)) = some (.int .i64 ((rd_T46 l0 x5_1).f0)) ∧ w'.cell? ⟨(ad443.add ((x5_1).toNat * 8)).block, (ad443.add ((x5_1).toNat * 8)).off + 1, none⟩ = some (.int .i64 ((rd_T46 l0 x5_1).f1)) ∧ w'.cell? ⟨(ad443.add ((x5_1).toNat * 8)).block, (ad443.add ((x5_1).toNat * 8)).off + 2, none⟩ = some (.slice A443_2 ((rd_T46 l0 x5_1).f2).length c443_2) ∧ w'.cell? ⟨(ad443.add ((x5_1).toNat * 8)).block, (ad443.add ((x5_1).toNat * 8)).off + 3, none⟩ = some (.int .i64 ((rd_T46 l0 x5_1).f3)) ∧ w'.cell? ⟨(ad443.add ((x5_1).toNat * 8)).block, (ad443.add ((x5_1).toNat * 8)).off + 4, none⟩ = some (.int .i64 ((rd_T46 l0 x5_1).f4)) ∧ w'.cell? ⟨(ad443.add ((x5_1).toNat * 8)).block, (ad443.add ((x5_1).toNat * 8)).off + 5, none⟩ = some (.slice A443_5 ((rd_T46 l0 x5_1).f5).length c443_5) ∧ w'.cell? ⟨(ad443.add ((x5_1).toNat * 8)).block, (ad443.add ((x5_1).toNat * 8)).off + 6, none⟩ = some (.slice A443_6 ((rd_T46 l0 x5_1).f6).length c443_6) ∧ w'.cell? ⟨(ad443.add ((x5_1).toNat * 8)).block, (ad443.add ((x5_1).toNat * 8)).off + 7, none⟩ = some (.slice A443_7 ((rd_T46 l0 x5_1).f7).length c443_7) ∧ w'.cell? (ad444.add ((x5_1).toNat * 8)) = some (.int .i64 ((rd_T46 l1 x5_1).f0)) ∧ w'.cell? ⟨(ad444.add ((x5_1).toNat * 8)).block, (ad444.add ((x5_1).toNat * 8)).off + 1, none⟩ = some (.int .i64 ((rd_T46 l1 x5_1).f1)) ∧ w'.cell? ⟨(ad444.add ((x5_1).toNat * 8)).block, (ad444.add ((x5_1).toNat * 8)).off + 2, none⟩ = some (.slice A444_2 ((rd_T46 l1 x5_1).f2).length c444_2) ∧ w'.cell? ⟨(ad444.add ((x5_1).toNat * 8)).block, (ad444.add ((x5_1).toNat * 8)).off + 3, none⟩ = some (.int .i64 ((rd_T46 l1 x5_1).f3)) ∧ w'.cell? ⟨(ad444.add ((x5_1).toNat * 8)).block, (ad444.add ((x5_1).toNat * 8)).off + 4, none⟩ = some (.int .i64 ((rd_T46 l1 x5_1).f4)) ∧ w'.cell? ⟨(ad444.add ((x5_1).toNat * 8)).block, (ad444.add ((x5_1).toNat * 8)).off + 5, none⟩ = some (.slice A444_5 ((rd_T46 l1 x5_1).f5).length c444_5) ∧ w'.cell? ⟨(ad444.add ((x5_1).toNat * 8)).block, (ad444.add ((x5_1).toNat * 8)).off + 6, none⟩ = some (.slice A444_6 ((rd_T46 l1 x5_1).f6).length c444_6) ∧ w'.cell? ⟨(ad444.add ((x5_1).toNat * 8)).block, (ad444.add ((x5_1).toNat * 8)).off + 7, none⟩ = some (.slice A444_7 ((rd_T46 l1 x5_1).f7).length c444_7)) (ds := []) #[false, false, false, false, false, false, false, false, false, false] (by kernel_rfl) rfl rfl ⟨((HB.out.cell (World.block_lt_of_cell? w _ hw443_0)).trans hw443_0), ((HB.out.cell (World.block_lt_of_cell? w _ hw443_1)).trans hw443_1), ((HB.out.cell (World.block_lt_of_cell? w _ hw443_2)).trans hw443_2), ((HB.out.cell (World.block_lt_of_cell? w _ hw443_3)).trans hw443_3), ((HB.out.cell (World.block_lt_of_cell? w _ hw443_4)).trans hw443_4), ((HB.out.cell (World.block_lt_of_cell? w _ hw443_5)).trans hw443_5), ((HB.out.cell (World.block_lt_of_cell? w _ hw443_6)).trans hw443_6), ((HB.out.cell (World.block_lt_of_cell? w _ hw443_7)).trans hw443_7), ((HB.out.cell (World.block_lt_of_cell? w _ hw444_0)).trans hw444_0), ((HB.out.cell (World.block_lt_of_cell? w _ hw444_1)).trans hw444_1), ((HB.out.cell (World.block_lt_of_cell? w _ hw444_2)).trans hw444_2), ((HB.out.cell (World.block_lt_of_cell? w _ hw444_3)).trans hw444_3), ((HB.out.cell (World.block_lt_of_cell? w _ hw444_4)).trans hw444_4), ((HB.out.cell (World.block_lt_of_cell? w _ hw444_5)).trans hw444_5), ((HB.out.cell (World.block_lt_of_cell? w _ hw444_6)).trans hw444_6), ((HB.out.cell (World.block_lt_of_cell? w _ hw444_7)).trans hw444_7)⟩ (fun hHeld => ?_); refine with_tabW laws_eqMethodS.tab6 laws_eqMethodS.bits6 (fun HT_ HW_ => ?_)
        generalize wr.drew = w9 at HB HR443_2 HR443_5 HR443_6 HR443_7 HR444_2 HR444_5 HR444_6 HR444_7 hx443_0 hx443_1 hx443_2 hx443_3 hx443_4 hx443_5 hx443_6 hx443_7 hx444_0 hx444_1 hx444_2 hx444_3 hx444_4 hx444_5 hx444_6 hx444_7 hHeld ⊢
        refine pu 0 17 #[true, false, false, false, false, false, false, false, false, false] HT_ rfl rfl ?_
        refine pu 1 18 #[true, true, false, false, false, false, false, false, false, false] HT_ rfl rfl ?_
        refine pu 2 19 #[true, true, true, false, false, false, false, false, false, false] HT_ rfl rfl ?_
        refine pu 4 21 #[true, true, true, false, true, false, false, false, false, false] HT_ rfl rfl ?_
        refine pu 5 22 #[true, true, true, false, true, true, false, false, false, false] HT_ rfl rfl ?_
        refine pu 6 23 #[true, true, true, false, true, true, true, false, false, false] HT_ rfl rfl ?_
        refine ta 3 20 #[true, true, true, true, true, true, true, false, false, false] HT_ HW_ hHeld rfl rfl ?_
        refine ta 7 24 #[true, true, true, true, true, true, true, true, false, false] HT_ HW_ hHeld rfl rfl ?_
        refine one_ (i := 8) (N := some 25) #[true, true, true, true, true, true, true, true, true, false] rfl rfl (one_of HT_.out (by kernel_rfl)) (by decide) (fun K hK => ?_)
        refine gs Try.func49 #[.agg #[.int .i64 ((rd_T46 l0 x5_1).f0), .int .i64 ((rd_T46 l0 x5_1).f1), .slice A443_2 ((rd_T46 l0 x5_1).f2).length c443_2, .int .i64 ((rd_T46 l0 x5_1).f3), .int .i64 ((rd_T46 l0 x5_1).f4), .slice A443_5 ((rd_T46 l0 x5_1).f5).length c443_5, .slice A443_6 ((rd_T46 l0 x5_1).f6).length c443_6, .slice A443_7 ((rd_T46 l0 x5_1).f7).length c443_7], .agg #[.int .i64 ((rd_T46 l1 x5_1).f0), .int .i64 ((rd_T46 l1 x5_1).f1), .slice A444_2 ((rd_T46 l1 x5_1).f2).length c444_2, .int .i64 ((rd_T46 l1 x5_1).f3), .int .i64 ((rd_T46 l1 x5_1).f4), .slice A444_5 ((rd_T46 l1 x5_1).f5).length c444_5, .slice A444_6 ((rd_T46 l1 x5_1).f6).length c444_6, .slice A444_7 ((rd_T46 l1 x5_1).f7).length c444_7]] rfl rfl ?_
        with_reducible refine (laws_eqMethod.calls k1 ((rd_T46 l0 x5_1).f0) ((rd_T46 l0 x5_1).f1) _ _ ((rd_T46 l0 x5_1).f2) ((rd_T46 l0 x5_1).f3) ((rd_T46 l0 x5_1).f4) _ _ ((rd_T46 l0 x5_1).f5) _ _ ((rd_T46 l0 x5_1).f6) _ _ ((rd_T46 l0 x5_1).f7) ((rd_T46 l1 x5_1).f0) ((rd_T46 l1 x5_1).f1) _ _ ((rd_T46 l1 x5_1).f2) ((rd_T46 l1 x5_1).f3) ((rd_T46 l1 x5_1).f4) _ _ ((rd_T46 l1 x5_1).f5) _ _ ((rd_T46 l1 x5_1).f6) _ _ ((rd_T46 l1 x5_1).f7) true _ ?side1 ?side2 ?side3 ?side4 ?side5 ?side6 ?side7 ?side8 ?side9 ?side10 ?side11 ?side12 ?side13 ?side14 ?side15 ?side16 A7.out).mono ?_
        (case side1 => exact cb HR443_2.out)
        (case side2 => exact HC443_2.out)
        (case side3 => exact cb HR443_5.out)
        (case side4 => exact HC443_5.out)
        (case side5 => exact cb HR443_6.out)
        (case side6 => exact HC443_6.out)
        (case side7 => exact cb HR443_7.out)
        (case side8 => exact HC443_7.out)
        (case side9 => exact cb HR444_2.out)
        (case side10 => exact HC444_2.out)
        (case side11 => exact cb HR444_5.out)
        (case side12 => exact HC444_5.out)
        (case side13 => exact cb HR444_6.out)
        (case side14 => exact HC444_6.out)
        (case side15 => exact cb HR444_7.out)
        (case side16 => exact HC444_7.out)
        rintro e w10 ⟨rfl, hb⟩
        refine ⟨_, rfl, ?_⟩
        replace HB := hs HB hb
        (try clear hb)
        (try clear hb2)
        (try clear hk)
        (try clear hi)
        refine hK.out _ _ ⟨((HB.out.cell (World.block_lt_of_cell? w _ hw443_0)).trans hw443_0), ((HB.out.cell (World.block_lt_of_cell? w _ hw443_1)).trans hw443_1), ((HB.out.cell (World.block_lt_of_cell? w _ hw443_2)).trans hw443_2), ((HB.out.cell (World.block_lt_of_cell? w _ hw443_3)).trans hw443_3), ((HB.out.cell (World.block_lt_of_cell? w _ hw443_4)).trans hw443_4), ((HB.out.cell (World.block_lt_of_cell? w _ hw443_5)).trans hw443_5), ((HB.out.cell (World.block_lt_of_cell? w _ hw443_6)).trans hw443_6), ((HB.out.cell (World.block_lt_of_cell? w _ hw443_7)).trans hw443_7), ((HB.out.cell (World.block_lt_of_cell? w _ hw444_0)).trans hw444_0), ((HB.out.cell (World.block_lt_of_cell? w _ hw444_1)).trans hw444_1), ((HB.out.cell (World.block_lt_of_cell? w _ hw444_2)).trans hw444_2), ((HB.out.cell (World.block_lt_of_cell? w _ hw444_3)).trans hw444_3), ((HB.out.cell (World.block_lt_of_cell? w _ hw444_4)).trans hw444_4), ((HB.out.cell (World.block_lt_of_cell? w _ hw444_5)).trans hw444_5), ((HB.out.cell (World.block_lt_of_cell? w _ hw444_6)).trans hw444_6), ((HB.out.cell (World.block_lt_of_cell? w _ hw444_7)).trans hw444_7)⟩ (fun hHeld => ?_)
        clear hK K
        refine no 25 ?_
        refine pu 9 26 #[true, true, true, true, true, true, true, true, true, true] HT_ rfl rfl ?_
        refine done_ (done_of HT_.out (by kernel_rfl)) ?_
        try go_wp2
        go_roundg k1
        case measure => have := HK1.out; omega
        case rel => exact ⟨(wrap64 (x5_1 + 1)), (by first | rfl | (simp; done) | (simp [*]; done)), H', ⟨by have := HK1.out; omega⟩, ⟨bl⟩⟩
       ·replace c8 := Bool.eq_false_iff.mpr c8
        subst c8
        replace H := ie H
        obtain rfl := Option.some.inj H; clear H
        try go_wp2
        replace HB := Aside0.mk (below_drew1 HB.out)
        have p443 : 0 ≤ (x5_1 : Int) := od
        have q443 : x5_1 < (l0.length : Int) := od
        obtain ⟨ad443, A443_2, c443_2, A443_5, c443_5, A443_6, c443_6, A443_7, c443_7, e443, hx443_0, hx443_1, hx443_2, hx443_3, hx443_4, hx443_5, hx443_6, hx443_7, hl443_2, hi443_2, hl443_5, hi443_5, hl443_6, hi443_6, hl443_7, hi443_7⟩ := at_T46 HR0.out x5_1 p443 q443
        have hw443_7 := hx443_7
        have hw443_6 := hx443_6
        have hw443_5 := hx443_5
        have hw443_4 := hx443_4
        have hw443_3 := hx443_3
        have hw443_2 := hx443_2
        have hw443_1 := hx443_1
        have hw443_0 := hx443_0
        cases e443
        obtain ⟨hx443_0,hx443_1,hx443_2,hx443_3,hx443_4,hx443_5,hx443_6,hx443_7⟩ := hc8 HB hx443_0 hx443_1 hx443_2 hx443_3 hx443_4 hx443_5 hx443_6 hx443_7
        have HR443_2 := Aside0.mk hi443_2
        have HC443_2 := Aside0.mk hl443_2
        clear hi443_2 hl443_2
        have HR443_5 := Aside0.mk hi443_5
        have HC443_5 := Aside0.mk hl443_5
        clear hi443_5 hl443_5
        have HR443_6 := Aside0.mk hi443_6
        have HC443_6 := Aside0.mk hl443_6
        clear hi443_6 hl443_6
        have HR443_7 := Aside0.mk hi443_7
        have HC443_7 := Aside0.mk hl443_7
        clear hi443_7 hl443_7
        replace p443 := eq_true p443
        replace q443 := eq_true q443
        have p444 : 0 ≤ (x5_1 : Int) := od
        have q444 : x5_1 < (l1.length : Int) := od
        obtain ⟨ad444, A444_2, c444_2, A444_5, c444_5, A444_6, c444_6, A444_7, c444_7, e444, hx444_0, hx444_1, hx444_2, hx444_3, hx444_4, hx444_5, hx444_6, hx444_7, hl444_2, hi444_2, hl444_5, hi444_5, hl444_6, hi444_6, hl444_7, hi444_7⟩ := at_T46 HR1.out x5_1 p444 q444
        have hw444_7 := hx444_7
        have hw444_6 := hx444_6
        have hw444_5 := hx444_5
        have hw444_4 := hx444_4
        have hw444_3 := hx444_3
        have hw444_2 := hx444_2
        have hw444_1 := hx444_1
        have hw444_0 := hx444_0
        cases e444
        obtain ⟨hx444_0,hx444_1,hx444_2,hx444_3,hx444_4,hx444_5,hx444_6,hx444_7⟩ := hc8 HB hx444_0 hx444_1 hx444_2 hx444_3 hx444_4 hx444_5 hx444_6 hx444_7
        have HR444_2 := Aside0.mk hi444_2
        have HC444_2 := Aside0.mk hl444_2
        clear hi444_2 hl444_2
        have HR444_5 := Aside0.mk hi444_5
        have HC444_5 := Aside0.mk hl444_5
        clear hi444_5 hl444_5
        have HR444_6 := Aside0.mk hi444_6
        have HC444_6 := Aside0.mk hl444_6
        clear hi444_6 hl444_6
        have HR444_7 := Aside0.mk hi444_7
        have HC444_7 := Aside0.mk hl444_7
        clear hi444_7 hl444_7
        replace p444 := eq_true p444
        replace q444 := eq_true q444
        refine start_ (n := 10) (S := fun w' => w'.cell? (ad443.add ((x5_1).toNat * 8)) = some (.int .i64 ((rd_T46 l0 x5_1).f0)) ∧ w'.cell? ⟨(ad443.add ((x5_1).toNat * 8)).block, (ad443.add ((x5_1).toNat * 8)).off + 1, none⟩ = some (.int .i64 ((rd_T46 l0 x5_1).f1)) ∧ w'.cell? ⟨(ad443.add ((x5_1).toNat * 8)).block, (ad443.add ((x5_1).toNat * 8)).off + 2, none⟩ = some (.slice A443_2 ((rd_T46 l0 x5_1).f2).length c443_2) ∧ w'.cell? ⟨(ad443.add ((x5_1).toNat * 8)).block, (ad443.add ((x5_1).toNat * 8)).off + 3, none⟩ = some (.int .i64 ((rd_T46 l0 x5_1).f3)) ∧ w'.cell? ⟨(ad443.add ((x5_1).toNat * 8)).block, (ad443.add ((x5_1).toNat * 8)).off + 4, none⟩ = some (.int .i64 ((rd_T46 l0 x5_1).f4)) ∧ w'.cell? ⟨(ad443.add ((x5_1).toNat * 8)).block, (ad443.add ((x5_1).toNat * 8)).off + 5, none⟩ = some (.slice A443_5 ((rd_T46 l0 x5_1).f5).length c443_5) ∧ w'.cell? ⟨(ad443.add ((x5_1).toNat * 8)).block, (ad443.add ((x5_1).toNat * 8)).off + 6, none⟩ = some (.slice A443_6 ((rd_T46 l0 x5_1).f6).length c443_6) ∧ w'.cell? ⟨(ad443.add ((x5_1).toNat * 8)).block, (ad443.add ((x5_1).toNat * 8)).off + 7, none⟩ = some (.slice A443_7 ((rd_T46 l0 x5_1).f7).length c443_7) ∧ w'.cell? (ad444.add ((x5_1).toNat * 8)) = some (.int .i64 ((rd_T46 l1 x5_1).f0)) ∧ w'.cell? ⟨(ad444.add ((x5_1).toNat * 8)).block, (ad444.add ((x5_1).toNat * 8)).off + 1, none⟩ = some (.int .i64 ((rd_T46 l1 x5_1).f1)) ∧ w'.cell? ⟨(ad444.add ((x5_1).toNat * 8)).block, (ad444.add ((x5_1).toNat * 8)).off + 2, none⟩ = some (.slice A444_2 ((rd_T46 l1 x5_1).f2).length c444_2) ∧ w'.cell? ⟨(ad444.add ((x5_1).toNat * 8)).block, (ad444.add ((x5_1).toNat * 8)).off + 3, none⟩ = some (.int .i64 ((rd_T46 l1 x5_1).f3)) ∧ w'.cell? ⟨(ad444.add ((x5_1).toNat * 8)).block, (ad444.add ((x5_1).toNat * 8)).off + 4, none⟩ = some (.int .i64 ((rd_T46 l1 x5_1).f4)) ∧ w'.cell? ⟨(ad444.add ((x5_1).toNat * 8)).block, (ad444.add ((x5_1).toNat * 8)).off + 5, none⟩ = some (.slice A444_5 ((rd_T46 l1 x5_1).f5).length c444_5) ∧ w'.cell? ⟨(ad444.add ((x5_1).toNat * 8)).block, (ad444.add ((x5_1).toNat * 8)).off + 6, none⟩ = some (.slice A444_6 ((rd_T46 l1 x5_1).f6).length c444_6) ∧ w'.cell? ⟨(ad444.add ((x5_1).toNat * 8)).block, (ad444.add ((x5_1).toNat * 8)).off + 7, none⟩ = some (.slice A444_7 ((rd_T46 l1 x5_1).f7).length c444_7)) (ds := []) #[false, false, false, false, false, false, false, false, false, false] (by kernel_rfl) rfl rfl ⟨((HB.out.cell (World.block_lt_of_cell? w _ hw443_0)).trans hw443_0), ((HB.out.cell (World.block_lt_of_cell? w _ hw443_1)).trans hw443_1), ((HB.out.cell (World.block_lt_of_cell? w _ hw443_2)).trans hw443_2), ((HB.out.cell (World.block_lt_of_cell? w _ hw443_3)).trans hw443_3), ((HB.out.cell (World.block_lt_of_cell? w _ hw443_4)).trans hw443_4), ((HB.out.cell (World.block_lt_of_cell? w _ hw443_5)).trans hw443_5), ((HB.out.cell (World.block_lt_of_cell? w _ hw443_6)).trans hw443_6), ((HB.out.cell (World.block_lt_of_cell? w _ hw443_7)).trans hw443_7), ((HB.out.cell (World.block_lt_of_cell? w _ hw444_0)).trans hw444_0), ((HB.out.cell (World.block_lt_of_cell? w _ hw444_1)).trans hw444_1), ((HB.out.cell (World.block_lt_of_cell? w _ hw444_2)).trans hw444_2), ((HB.out.cell (World.block_lt_of_cell? w _ hw444_3)).trans hw444_3), ((HB.out.cell (World.block_lt_of_cell? w _ hw444_4)).trans hw444_4), ((HB.out.cell (World.block_lt_of_cell? w _ hw444_5)).trans hw444_5), ((HB.out.cell (World.block_lt_of_cell? w _ hw444_6)).trans hw444_6), ((HB.out.cell (World.block_lt_of_cell? w _ hw444_7)).trans hw444_7)⟩ (fun hHeld => ?_); refine with_tabW laws_eqMethodS.tab6 laws_eqMethodS.bits6 (fun HT_ HW_ => ?_)
        generalize wr.drew = w11 at HB HR443_2 HR443_5 HR443_6 HR443_7 HR444_2 HR444_5 HR444_6 HR444_7 hx443_0 hx443_1 hx443_2 hx443_3 hx443_4 hx443_5 hx443_6 hx443_7 hx444_0 hx444_1 hx444_2 hx444_3 hx444_4 hx444_5 hx444_6 hx444_7 hHeld ⊢
        refine pu 0 17 #[true, false, false, false, false, false, false, false, false, false] HT_ rfl rfl ?_
        refine pu 1 18 #[true, true, false, false, false, false, false, false, false, false] HT_ rfl rfl ?_
        refine pu 2 19 #[true, true, true, false, false, false, false, false, false, false] HT_ rfl rfl ?_
        refine pu 4 21 #[true, true, true, false, true, false, false, false, false, false] HT_ rfl rfl ?_
        refine pu 5 22 #[true, true, true, false, true, true, false, false, false, false] HT_ rfl rfl ?_
        refine pu 6 23 #[true, true, true, false, true, true, true, false, false, false] HT_ rfl rfl ?_
        refine ta 3 20 #[true, true, true, true, true, true, true, false, false, false] HT_ HW_ hHeld rfl rfl ?_
        refine ta 7 24 #[true, true, true, true, true, true, true, true, false, false] HT_ HW_ hHeld rfl rfl ?_
        refine one_ (i := 8) (N := some 25) #[true, true, true, true, true, true, true, true, true, false] rfl rfl (one_of HT_.out (by kernel_rfl)) (by decide) (fun K hK => ?_)
        refine gs Try.func49 #[.agg #[.int .i64 ((rd_T46 l0 x5_1).f0), .int .i64 ((rd_T46 l0 x5_1).f1), .slice A443_2 ((rd_T46 l0 x5_1).f2).length c443_2, .int .i64 ((rd_T46 l0 x5_1).f3), .int .i64 ((rd_T46 l0 x5_1).f4), .slice A443_5 ((rd_T46 l0 x5_1).f5).length c443_5, .slice A443_6 ((rd_T46 l0 x5_1).f6).length c443_6, .slice A443_7 ((rd_T46 l0 x5_1).f7).length c443_7], .agg #[.int .i64 ((rd_T46 l1 x5_1).f0), .int .i64 ((rd_T46 l1 x5_1).f1), .slice A444_2 ((rd_T46 l1 x5_1).f2).length c444_2, .int .i64 ((rd_T46 l1 x5_1).f3), .int .i64 ((rd_T46 l1 x5_1).f4), .slice A444_5 ((rd_T46 l1 x5_1).f5).length c444_5, .slice A444_6 ((rd_T46 l1 x5_1).f6).length c444_6, .slice A444_7 ((rd_T46 l1 x5_1).f7).length c444_7]] rfl rfl ?_
        with_reducible refine (laws_eqMethod.calls k1 ((rd_T46 l0 x5_1).f0) ((rd_T46 l0 x5_1).f1) _ _ ((rd_T46 l0 x5_1).f2) ((rd_T46 l0 x5_1).f3) ((rd_T46 l0 x5_1).f4) _ _ ((rd_T46 l0 x5_1).f5) _ _ ((rd_T46 l0 x5_1).f6) _ _ ((rd_T46 l0 x5_1).f7) ((rd_T46 l1 x5_1).f0) ((rd_T46 l1 x5_1).f1) _ _ ((rd_T46 l1 x5_1).f2) ((rd_T46 l1 x5_1).f3) ((rd_T46 l1 x5_1).f4) _ _ ((rd_T46 l1 x5_1).f5) _ _ ((rd_T46 l1 x5_1).f6) _ _ ((rd_T46 l1 x5_1).f7) false _ ?side1 ?side2 ?side3 ?side4 ?side5 ?side6 ?side7 ?side8 ?side9 ?side10 ?side11 ?side12 ?side13 ?side14 ?side15 ?side16 A7.out).mono ?_
        (case side1 => exact cb HR443_2.out)
        (case side2 => exact HC443_2.out)
        (case side3 => exact cb HR443_5.out)
        (case side4 => exact HC443_5.out)
        (case side5 => exact cb HR443_6.out)
        (case side6 => exact HC443_6.out)
        (case side7 => exact cb HR443_7.out)
        (case side8 => exact HC443_7.out)
        (case side9 => exact cb HR444_2.out)
        (case side10 => exact HC444_2.out)
        (case side11 => exact cb HR444_5.out)
        (case side12 => exact HC444_5.out)
        (case side13 => exact cb HR444_6.out)
        (case side14 => exact HC444_6.out)
        (case side15 => exact cb HR444_7.out)
        (case side16 => exact HC444_7.out)
        rintro e w12 ⟨rfl, hb⟩
        refine ⟨_, rfl, ?_⟩
        replace HB := hs HB hb
        (try clear hb)
        (try clear hb2)
        (try clear hk)
        (try clear hi)
        refine hK.out _ _ ⟨((HB.out.cell (World.block_lt_of_cell? w _ hw443_0)).trans hw443_0), ((HB.out.cell (World.block_lt_of_cell? w _ hw443_1)).trans hw443_1), ((HB.out.cell (World.block_lt_of_cell? w _ hw443_2)).trans hw443_2), ((HB.out.cell (World.block_lt_of_cell? w _ hw443_3)).trans hw443_3), ((HB.out.cell (World.block_lt_of_cell? w _ hw443_4)).trans hw443_4), ((HB.out.cell (World.block_lt_of_cell? w _ hw443_5)).trans hw443_5), ((HB.out.cell (World.block_lt_of_cell? w _ hw443_6)).trans hw443_6), ((HB.out.cell (World.block_lt_of_cell? w _ hw443_7)).trans hw443_7), ((HB.out.cell (World.block_lt_of_cell? w _ hw444_0)).trans hw444_0), ((HB.out.cell (World.block_lt_of_cell? w _ hw444_1)).trans hw444_1), ((HB.out.cell (World.block_lt_of_cell? w _ hw444_2)).trans hw444_2), ((HB.out.cell (World.block_lt_of_cell? w _ hw444_3)).trans hw444_3), ((HB.out.cell (World.block_lt_of_cell? w _ hw444_4)).trans hw444_4), ((HB.out.cell (World.block_lt_of_cell? w _ hw444_5)).trans hw444_5), ((HB.out.cell (World.block_lt_of_cell? w _ hw444_6)).trans hw444_6), ((HB.out.cell (World.block_lt_of_cell? w _ hw444_7)).trans hw444_7)⟩ (fun hHeld => ?_)
        clear hK K
        refine no 25 ?_
        refine pu 9 26 #[true, true, true, true, true, true, true, true, true, true] HT_ rfl rfl ?_
        refine done_ (done_of HT_.out (by kernel_rfl)) ?_
        try go_wp2
        go_ret
        exact fin
      ·rw [if_neg c6] at H
       exact absurd H (by simp)
     ·rw [if_neg c5] at H
      exact absurd H (by simp)
    ·rw [if_neg c4] at H
     have c4b0 : decide (x5_1 < (l0.length : Int)) = false := decide_eq_false c4
     clear c4
     obtain rfl := Option.some.inj H; clear H
     go_wp2
     go_ret
     exact fin
 ·rw [if_neg c3] at H
  have c3b0 := beq_eq_false_iff_ne.mpr c3
  have c3b1 := bne_iff_ne.mpr c3
  have c3b2 : (l0.length == l1.length) = false := by first | simpa using c3 | (simp at c3 ⊢; omega)
  obtain rfl := Option.some.inj H; clear H
  go_enter Try.func27, Try.ntmps27
  go_wp2
  go_ret
  exact fin
end Go.Proofs.Ytedodaifpekahaa.P

end
section

namespace Go.Proofs.Ytedodaifpekahaa.P
open Go.RowKit Go.Proofs.YtedodaifpekahaaW.PrintWords Go.Proofs.YtedodaifpekahaaW.PrintLast Go.Proofs.YtedodaifpekahaaW.PrintMore
attribute [local go_sem] max2_int min2_int max_two min_two max_three min_three max_four min_four
set_option linter.unusedVariables false
set_option linter.unusedSimpArgs false
set_option maxHeartbeats 8000000 in
set_option maxRecDepth 100000 in
theorem laws_eqUnit.calls (k : Nat) (A0_0 : Option Addr) (c0_0 : Nat) (l0_0 : List (S76)) (A0_1 : Option Addr) (c0_1 : Nat) (l0_1 : List (S46)) (A1_0 : Option Addr) (c1_0 : Nat) (l1_0 : List (S76)) (A1_1 : Option Addr) (c1_1 : Nat) (l1_1 : List (S46)) (r : Bool) (w : World) (hr0_0 : Kd.C k76 w A0_0 l0_0.length l0_0) (hc0_0 : l0_0.length ≤ c0_0) (hr0_1 : Kd.C k46 w A0_1 l0_1.length l0_1) (hc0_1 : l0_1.length ≤ c0_1) (hr1_0 : Kd.C k76 w A1_0 l1_0.length l1_0) (hc1_0 : l1_0.length ≤ c1_0) (hr1_1 : Kd.C k46 w A1_1 l1_1.length l1_1) (hc1_1 : l1_1.length ≤ c1_1) (h : laws_eqUnit.f k l0_0 l0_1 l1_0 l1_1 = some r) :
  Calls Try.prog 9 #[.agg #[.slice A0_0 l0_0.length c0_0, .slice A0_1 l0_1.length c0_1], .agg #[.slice A1_0 l1_0.length c1_0, .slice A1_1 l1_1.length c1_1]] w fun e w' => e = .returned (.bool r) ∧ Below w.heap.size w w' := by
 have hu31 := Try.underlying31
 have HR0_0 := Aside0.mk hr0_0
 have HC0_0 := Aside0.mk hc0_0
 clear hr0_0 hc0_0
 have HR0_1 := Aside0.mk hr0_1
 have HC0_1 := Aside0.mk hc0_1
 clear hr0_1 hc0_1
 have HR1_0 := Aside0.mk hr1_0
 have HC1_0 := Aside0.mk hc1_0
 clear hr1_0 hc1_0
 have HR1_1 := Aside0.mk hr1_1
 have HC1_1 := Aside0.mk hc1_1
 clear hr1_1 hc1_1
 have HB := Aside0.mk (Below.refl w.heap.size w)
 have H : ((laws_eqClassS.f k l0_0 l1_0).bind fun t448 => (if t448 = true then ((laws_eqMethodS.f k l0_1 l1_1).bind fun t449 => (if t449 = true then (some true) else (some false))) else (some false))) = some r := h
 clear h
 obtain ⟨t448, A3, H⟩ := ob H
 by_cases c4 : t448 = true
 ·subst c4
  replace H := it H
  obtain ⟨t449, A5, H⟩ := ob H
  by_cases c6 : t449 = true
  ·subst c6
   replace H := it H
   obtain rfl := Option.some.inj H; clear H
   go_enter Try.func9, Try.ntmps9
   go_wp2_with (first | ((with_reducible refine gd 2 rfl ?_); refine bx 2 #[.slice A0_0 l0_0.length c0_0, .slice A0_1 l0_1.length c0_1] 31 ?_; intro gb446 hg w7 hbox hb; have BK446 := Aside0.mk hbox; have GW446 := hz HB hg; have GE446 := hz HB hg; replace HB := hs HB hb; clear hb hbox hg) | ((with_reducible refine gd 3 rfl ?_); refine bx 3 #[.slice A1_0 l1_0.length c1_0, .slice A1_1 l1_1.length c1_1] 31 ?_; intro gb447 hg w8 hbox hb; have BK447 := Aside0.mk hbox; have GW447 := hz HB hg; have GE447 := hz HB hg; have NB446_447 := nl BK446 hg; have NB447_446 := ng BK446 hg; replace BK446 := kb BK446 hb; replace HB := hs HB hb; clear hb hbox hg; have hnb9 := NB446_447.out; have hnc9 := NB447_446.out; obtain ⟨_,_,_,_⟩ := cf2 BK446; obtain ⟨_,_,_,_⟩ := cf2 BK447) | ((with_reducible refine gc 26 rfl ?_); refine gl (some 9) Try.func26 #[.slice A0_0 l0_0.length c0_0, .slice A1_0 l1_0.length c1_0] rfl ?_; (with_reducible refine (laws_eqClassS.calls k _ _ l0_0 _ _ l1_0 true _ ?side1 ?side2 ?side3 ?side4 A3.out).mono ?_); (case side1 => exact cb HR0_0.out); (case side2 => exact HC0_0.out); (case side3 => exact cb HR1_0.out); (case side4 => exact HC1_0.out); rintro e w12 ⟨rfl, hb⟩; refine ⟨_, rfl, ?_⟩; replace BK446 := kb BK446 hb; replace BK447 := kb BK447 hb; replace HB := hs HB hb; (try clear hb); obtain ⟨_,_,_,_⟩ := cf2 BK446; obtain ⟨_,_,_,_⟩ := cf2 BK447) | ((with_reducible refine gc 27 rfl ?_); refine gl (some 15) Try.func27 #[.slice A0_1 l0_1.length c0_1, .slice A1_1 l1_1.length c1_1] rfl ?_; (with_reducible refine (laws_eqMethodS.calls k _ _ l0_1 _ _ l1_1 true _ ?side1 ?side2 ?side3 ?side4 A5.out).mono ?_); (case side1 => exact cb HR0_1.out); (case side2 => exact HC0_1.out); (case side3 => exact cb HR1_1.out); (case side4 => exact HC1_1.out); rintro e w15 ⟨rfl, hb⟩; refine ⟨_, rfl, ?_⟩; replace BK446 := kb BK446 hb; replace BK447 := kb BK447 hb; replace HB := hs HB hb; (try clear hb)))
   go_ret
   exact fin
  ·replace c6 := Bool.eq_false_iff.mpr c6
   subst c6
   replace H := ie H
   obtain rfl := Option.some.inj H; clear H
   go_enter Try.func9, Try.ntmps9
   go_wp2_with (first | ((with_reducible refine gd 2 rfl ?_); refine bx 2 #[.slice A0_0 l0_0.length c0_0, .slice A0_1 l0_1.length c0_1] 31 ?_; intro gb446 hg w16 hbox hb; have BK446 := Aside0.mk hbox; have GW446 := hz HB hg; have GE446 := hz HB hg; replace HB := hs HB hb; clear hb hbox hg) | ((with_reducible refine gd 3 rfl ?_); refine bx 3 #[.slice A1_0 l1_0.length c1_0, .slice A1_1 l1_1.length c1_1] 31 ?_; intro gb447 hg w17 hbox hb; have BK447 := Aside0.mk hbox; have GW447 := hz HB hg; have GE447 := hz HB hg; have NB446_447 := nl BK446 hg; have NB447_446 := ng BK446 hg; replace BK446 := kb BK446 hb; replace HB := hs HB hb; clear hb hbox hg; have hnb18 := NB446_447.out; have hnc18 := NB447_446.out; obtain ⟨_,_,_,_⟩ := cf2 BK446; obtain ⟨_,_,_,_⟩ := cf2 BK447) | ((with_reducible refine gc 26 rfl ?_); refine gl (some 9) Try.func26 #[.slice A0_0 l0_0.length c0_0, .slice A1_0 l1_0.length c1_0] rfl ?_; (with_reducible refine (laws_eqClassS.calls k _ _ l0_0 _ _ l1_0 true _ ?side1 ?side2 ?side3 ?side4 A3.out).mono ?_); (case side1 => exact cb HR0_0.out); (case side2 => exact HC0_0.out); (case side3 => exact cb HR1_0.out); (case side4 => exact HC1_0.out); rintro e w21 ⟨rfl, hb⟩; refine ⟨_, rfl, ?_⟩; replace BK446 := kb BK446 hb; replace BK447 := kb BK447 hb; replace HB := hs HB hb; (try clear hb); obtain ⟨_,_,_,_⟩ := cf2 BK446; obtain ⟨_,_,_,_⟩ := cf2 BK447) | ((with_reducible refine gc 27 rfl ?_); refine gl (some 15) Try.func27 #[.slice A0_1 l0_1.length c0_1, .slice A1_1 l1_1.length c1_1] rfl ?_; (with_reducible refine (laws_eqMethodS.calls k _ _ l0_1 _ _ l1_1 false _ ?side1 ?side2 ?side3 ?side4 A5.out).mono ?_); (case side1 => exact cb HR0_1.out); (case side2 => exact HC0_1.out); (case side3 => exact cb HR1_1.out); (case side4 => exact HC1_1.out); rintro e w24 ⟨rfl, hb⟩; refine ⟨_, rfl, ?_⟩; replace BK446 := kb BK446 hb; replace BK447 := kb BK447 hb; replace HB := hs HB hb; (try clear hb)))
   go_ret
   exact fin
 ·replace c4 := Bool.eq_false_iff.mpr c4
  subst c4
  replace H := ie H
  obtain rfl := Option.some.inj H; clear H
  go_enter Try.func9, Try.ntmps9
  go_wp2_with (first | ((with_reducible refine gd 2 rfl ?_); refine bx 2 #[.slice A0_0 l0_0.length c0_0, .slice A0_1 l0_1.length c0_1] 31 ?_; intro gb446 hg w25 hbox hb; have BK446 := Aside0.mk hbox; have GW446 := hz HB hg; have GE446 := hz HB hg; replace HB := hs HB hb; clear hb hbox hg) | ((with_reducible refine gd 3 rfl ?_); refine bx 3 #[.slice A1_0 l1_0.length c1_0, .slice A1_1 l1_1.length c1_1] 31 ?_; intro gb447 hg w26 hbox hb; have BK447 := Aside0.mk hbox; have GW447 := hz HB hg; have GE447 := hz HB hg; have NB446_447 := nl BK446 hg; have NB447_446 := ng BK446 hg; replace BK446 := kb BK446 hb; replace HB := hs HB hb; clear hb hbox hg; have hnb27 := NB446_447.out; have hnc27 := NB447_446.out; obtain ⟨_,_,_,_⟩ := cf2 BK446; obtain ⟨_,_,_,_⟩ := cf2 BK447) | ((with_reducible refine gc 26 rfl ?_); refine gl (some 9) Try.func26 #[.slice A0_0 l0_0.length c0_0, .slice A1_0 l1_0.length c1_0] rfl ?_; (with_reducible refine (laws_eqClassS.calls k _ _ l0_0 _ _ l1_0 false _ ?side1 ?side2 ?side3 ?side4 A3.out).mono ?_); (case side1 => exact cb HR0_0.out); (case side2 => exact HC0_0.out); (case side3 => exact cb HR1_0.out); (case side4 => exact HC1_0.out); rintro e w30 ⟨rfl, hb⟩; refine ⟨_, rfl, ?_⟩; replace BK446 := kb BK446 hb; replace BK447 := kb BK447 hb; replace HB := hs HB hb; (try clear hb)))
  go_ret
  exact fin
end Go.Proofs.Ytedodaifpekahaa.P

end
