/- A part of the claim FnExactUnitFind: texts of this session and texts that its program printed out of the translation, joined. -/
import Derived.Test.YtedodaifpekahaaCFnExactUnitFind21
import Derived.Test.YtedodaifpekahaaCFnExactUnitFind22
import Derived.Test.YtedodaifpekahaaCFnExactUnitFind32
import Derived.Test.YtedodaifpekahaaCFnExactUnitFind27
import Derived.Test.YtedodaifpekahaaCFnExactUnitFind30
import Derived.Test.YtedodaifpekahaaCFnExactUnitFind20
import Derived.Deep.Slices
import Derived.Lib.SmallJoins
import Derived.DataReads
import Derived.WideShapes
import Derived.Test.YtedodaifpekahaaCFnExactUnitFind0
import Derived.Test.YtedodaifpekahaaCFnExactUnitFind1
import Derived.Test.YtedodaifpekahaaCFnExactUnitFind2
import Derived.Test.YtedodaifpekahaaCFnExactUnitFind3
import Derived.Test.YtedodaifpekahaaCFnExactUnitFind4
import Derived.Test.YtedodaifpekahaaCFnExactUnitFind5
import Derived.Test.YtedodaifpekahaaCFnExactUnitFind6
import Derived.Test.YtedodaifpekahaaCFnExactUnitFind7
import Derived.Test.YtedodaifpekahaaCFnExactUnitFind8
import Derived.Test.YtedodaifpekahaaCFnExactUnitFind9
import Derived.Test.YtedodaifpekahaaCFnExactUnitFind10
import Derived.Test.YtedodaifpekahaaCFnExactUnitFind11
import Derived.Test.YtedodaifpekahaaCFnExactUnitFind12
import Derived.Test.YtedodaifpekahaaCFnExactUnitFind13
import Derived.Test.YtedodaifpekahaaCFnExactUnitFind14
import Derived.Test.YtedodaifpekahaaCFnExactUnitFind15
import Derived.Test.YtedodaifpekahaaCFnExactUnitFind16
import Derived.Test.YtedodaifpekahaaCFnExactUnitFind17
import Derived.Test.YtedodaifpekahaaCFnExactUnitFind18
import Derived.Test.YtedodaifpekahaaCFnExactUnitFind19
import Derived.Test.YtedodaifpekahaaCFnExactUnitFind23
import Derived.Test.YtedodaifpekahaaCFnExactUnitFind24
import Derived.Test.YtedodaifpekahaaCFnExactUnitFind25
import Derived.Test.YtedodaifpekahaaCFnExactUnitFind26
import Derived.Test.YtedodaifpekahaaCFnExactUnitFind28
import Derived.Test.YtedodaifpekahaaCFnExactUnitFind29
import Derived.Test.YtedodaifpekahaaCFnExactUnitFind31
section

namespace Go.Proofs.Ytedodaifpekahaa.P
open Go.RowKit Go.Proofs.YtedodaifpekahaaW.PrintWords Go.Proofs.YtedodaifpekahaaW.PrintLast Go.Proofs.YtedodaifpekahaaW.PrintMore
attribute [local go_sem] max2_int min2_int max_two min_two max_three min_three max_four min_four
set_option linter.unusedVariables false
set_option linter.unusedSimpArgs false
def laws_eqCatchS.T6 : Bool × List (List Nat × List Nat) := (true, [([], []), ([], []), ([0, 1], [0, 1]), ([2], [2]), ([], []), ([], []), ([4, 5], [4, 5]), ([6], [6]), ([3, 7], [3, 7]), ([8], [8])])
def laws_eqCatchS.B6 : List Nat := [0, 0, 3, 7, 0, 0, 48, 112, 255, 511]
theorem laws_eqCatchS.tab6 : rtab .any (opsOf Try.f68 6) = laws_eqCatchS.T6 := by kernel_rfl
theorem laws_eqCatchS.bits6 : waitsOk laws_eqCatchS.T6.2 laws_eqCatchS.B6 = true := by kernel_rfl
set_option maxHeartbeats 8000000 in
set_option maxRecDepth 100000 in
theorem laws_eqCatchS.calls (k : Nat) (A0 : Option Addr) (c0 : Nat) (l0 : List (S73)) (A1 : Option Addr) (c1 : Nat) (l1 : List (S73)) (r : Bool) (w : World) (hr0 : Kd.C k73 w A0 l0.length l0) (hc0 : l0.length ≤ c0) (hr1 : Kd.C k73 w A1 l1.length l1) (hc1 : l1.length ≤ c1) (h : laws_eqCatchS.f k l0 l1 = some r) :
  Calls Try.prog 68 #[.slice A0 l0.length c0, .slice A1 l1.length c1] w fun e w' => e = .returned (.bool r) ∧ Below w.heap.size w w' := by
 have hu73 := Try.underlying73
 have HR0 := Aside0.mk hr0
 have HC0 := Aside0.mk hc0
 clear hr0 hc0
 have HR1 := Aside0.mk hr1
 have HC1 := Aside0.mk hc1
 clear hr1 hc1
 have HB := Aside0.mk (Below.refl w.heap.size w)
 have H : (if (l0.length : Int) = (l1.length : Int) then (laws_eqCatchS.l0 k l0 l1 0) else (some false)) = some r := h
 clear h
 by_cases c3 : (l0.length : Int) = (l1.length : Int)
 ·rw [if_pos c3] at H
  have c3b0 := beq_iff_eq.mpr c3
  have c3b1 := bne_eq_false_iff_eq.mpr c3
  have c3b2 : (l0.length == l1.length) = true := by first | simpa using c3 | (simp at c3 ⊢; omega)
  clear c3
  have H' := Aside0.mk H
  clear H
  go_enter Try.func68, Try.ntmps68
  go_wp2
  go_loopg [5] k (fun kq v5 w' => ∃ (x5_1 : Int), v5 = .int .i64 x5_1 ∧ Aside0 (laws_eqCatchS.l0 kq l0 l1 x5_1 = some r) ∧ Aside0 (kq ≤ k) ∧ Aside0 (Below w.heap.size w w'))
  case atStart => exact ⟨(0), (by first | rfl | (simp; done) | (simp [*]; done)), H', ⟨Nat.le_refl _⟩, ⟨bl⟩⟩
  case round =>
   clear H'
   obtain ⟨x5_1, rfl, HA, HK1, HB⟩ := hrel
   cases gk with
   | zero => exact absurd HA.out (by simp [laws_eqCatchS.l0])
   | succ k1 =>
    have H := HA.out
    clear HA
    simp only [laws_eqCatchS.l0] at H
    by_cases c4 : x5_1 < (l0.length : Int)
    ·rw [if_pos c4] at H
     have c4b0 : decide (x5_1 < (l0.length : Int)) = true := decide_eq_true c4
     clear c4
     by_cases c5 : 0 ≤ x5_1
     ·rw [if_pos c5] at H
      have c5b0 : decide (0 ≤ x5_1) = true := decide_eq_true c5
      clear c5
      by_cases c6 : x5_1 < (l1.length : Int)
      ·rw [if_pos c6] at H
       have c6b0 : decide (x5_1 < (l1.length : Int)) = true := decide_eq_true c6
       clear c6
       obtain ⟨t436, A7, H⟩ := ob H
       by_cases c8 : t436 = true
       ·subst c8
        replace H := it H
        have H' := Aside0.mk H
        clear H
        try go_wp2
        replace HB := Aside0.mk (below_drew1 HB.out)
        have p434 : 0 ≤ (x5_1 : Int) := od
        have q434 : x5_1 < (l0.length : Int) := od
        obtain ⟨ad434, e434, hx434_0, hx434_1, hx434_2, hx434_3⟩ := at_T73 HR0.out x5_1 p434 q434
        have hw434_3 := hx434_3
        have hw434_2 := hx434_2
        have hw434_1 := hx434_1
        have hw434_0 := hx434_0
        cases e434
        obtain ⟨hx434_0,hx434_1,hx434_2,hx434_3⟩ := hc4 HB hx434_0 hx434_1 hx434_2 hx434_3
        replace p434 := eq_true p434
        replace q434 := eq_true q434
        have p435 : 0 ≤ (x5_1 : Int) := od
        have q435 : x5_1 < (l1.length : Int) := od
        obtain ⟨ad435, e435, hx435_0, hx435_1, hx435_2, hx435_3⟩ := at_T73 HR1.out x5_1 p435 q435
        have hw435_3 := hx435_3
        have hw435_2 := hx435_2
        have hw435_1 := hx435_1
        have hw435_0 := hx435_0
        cases e435
        obtain ⟨hx435_0,hx435_1,hx435_2,hx435_3⟩ := hc4 HB hx435_0 hx435_1 hx435_2 hx435_3
        replace p435 := eq_true p435
        replace q435 := eq_true q435
        refine start_ (n := 10) (S := fun w' => w'.cell? (ad434.add ((x5_1).toNat * 4)) = some (.int .i64 ((rd_T73 l0 x5_1).f0)) ∧ w'.cell? ⟨(ad434.add ((x5_1).toNat * 4)).block, (ad434.add ((x5_1).toNat * 4)).off + 1, none⟩ = some (.int .i64 ((rd_T73 l0 x5_1).f1)) ∧ w'.cell? ⟨(ad434.add ((x5_1).toNat * 4)).block, (ad434.add ((x5_1).toNat * 4)).off + 2, none⟩ = some (.int .i64 ((rd_T73 l0 x5_1).f2)) ∧ w'.cell? ⟨(ad434.add ((x5_1).toNat * 4)).block, (ad434.add ((x5_1).toNat * 4)).off + 3, none⟩ = some (.int .i64 ((rd_T73 l0 x5_1).f3)) ∧ w'.cell? (ad435.add ((x5_1).toNat * 4)) = some (.int .i64 ((rd_T73 l1 x5_1).f0)) ∧ w'.cell? ⟨(ad435.add ((x5_1).toNat * 4)).block, (ad435.add ((x5_1).toNat * 4)).off + 1, none⟩ = some (.int .i64 ((rd_T73 l1 x5_1).f1)) ∧ w'.cell? ⟨(ad435.add ((x5_1).toNat * 4)).block, (ad435.add ((x5_1).toNat * 4)).off + 2, none⟩ = some (.int .i64 ((rd_T73 l1 x5_1).f2)) ∧ w'.cell? ⟨(ad435.add ((x5_1).toNat * 4)).block, (ad435.add ((x5_1).toNat * 4)).off + 3, none⟩ = some (.int .i64 ((rd_T73 l1 x5_1).f3))) (ds := []) #[false, false, false, false, false, false, false, false, false, false] (by kernel_rfl) rfl rfl ⟨((HB.out.cell (World.block_lt_of_cell? w _ hw434_0)).trans hw434_0), ((HB.out.cell (World.block_lt_of_cell? w _ hw434_1)).trans hw434_1), ((HB.out.cell (World.block_lt_of_cell? w _ hw434_2)).trans hw434_2), ((HB.out.cell (World.block_lt_of_cell? w _ hw434_3)).trans hw434_3), ((HB.out.cell (World.block_lt_of_cell? w _ hw435_0)).trans hw435_0), ((HB.out.cell (World.block_lt_of_cell? w _ hw435_1)).trans hw435_1), ((HB.out.cell (World.block_lt_of_cell? w _ hw435_2)).trans hw435_2), ((HB.out.cell (World.block_lt_of_cell? w _ hw435_3)).trans hw435_3)⟩ (fun hHeld => ?_); refine with_tabW laws_eqCatchS.tab6 laws_eqCatchS.bits6 (fun HT_ HW_ => ?_)
        generalize wr.drew = w9 at HB hx434_0 hx434_1 hx434_2 hx434_3 hx435_0 hx435_1 hx435_2 hx435_3 hHeld ⊢
        refine pu 0 17 #[true, false, false, false, false, false, false, false, false, false] HT_ rfl rfl ?_
        refine pu 1 18 #[true, true, false, false, false, false, false, false, false, false] HT_ rfl rfl ?_
        refine pu 2 19 #[true, true, true, false, false, false, false, false, false, false] HT_ rfl rfl ?_
        refine pu 4 21 #[true, true, true, false, true, false, false, false, false, false] HT_ rfl rfl ?_
        refine pu 5 22 #[true, true, true, false, true, true, false, false, false, false] HT_ rfl rfl ?_
        refine pu 6 23 #[true, true, true, false, true, true, true, false, false, false] HT_ rfl rfl ?_
        refine ta 3 20 #[true, true, true, true, true, true, true, false, false, false] HT_ HW_ hHeld rfl rfl ?_
        refine ta 7 24 #[true, true, true, true, true, true, true, true, false, false] HT_ HW_ hHeld rfl rfl ?_
        refine one_ (i := 8) (N := some 25) #[true, true, true, true, true, true, true, true, true, false] rfl rfl (one_of HT_.out (by kernel_rfl)) (by decide) (fun K hK => ?_)
        refine gs Try.func75 #[.agg #[.int .i64 ((rd_T73 l0 x5_1).f0), .int .i64 ((rd_T73 l0 x5_1).f1), .int .i64 ((rd_T73 l0 x5_1).f2), .int .i64 ((rd_T73 l0 x5_1).f3)], .agg #[.int .i64 ((rd_T73 l1 x5_1).f0), .int .i64 ((rd_T73 l1 x5_1).f1), .int .i64 ((rd_T73 l1 x5_1).f2), .int .i64 ((rd_T73 l1 x5_1).f3)]] rfl rfl ?_
        with_reducible refine (laws_eqCatch.calls ((rd_T73 l0 x5_1).f0) ((rd_T73 l0 x5_1).f1) ((rd_T73 l0 x5_1).f2) ((rd_T73 l0 x5_1).f3) ((rd_T73 l1 x5_1).f0) ((rd_T73 l1 x5_1).f1) ((rd_T73 l1 x5_1).f2) ((rd_T73 l1 x5_1).f3) true _ A7.out).mono ?_
        rintro e w10 ⟨rfl, hb⟩
        refine ⟨_, rfl, ?_⟩
        replace HB := hs HB hb
        (try clear hb)
        (try clear hb2)
        (try clear hk)
        (try clear hi)
        refine hK.out _ _ ⟨((HB.out.cell (World.block_lt_of_cell? w _ hw434_0)).trans hw434_0), ((HB.out.cell (World.block_lt_of_cell? w _ hw434_1)).trans hw434_1), ((HB.out.cell (World.block_lt_of_cell? w _ hw434_2)).trans hw434_2), ((HB.out.cell (World.block_lt_of_cell? w _ hw434_3)).trans hw434_3), ((HB.out.cell (World.block_lt_of_cell? w _ hw435_0)).trans hw435_0), ((HB.out.cell (World.block_lt_of_cell? w _ hw435_1)).trans hw435_1), ((HB.out.cell (World.block_lt_of_cell? w _ hw435_2)).trans hw435_2), ((HB.out.cell (World.block_lt_of_cell? w _ hw435_3)).trans hw435_3)⟩ (fun hHeld => ?_)
        clear hK K
        refine no 25 ?_
        refine pu 9 26 #[true, true, true, true, true, true, true, true, true, true] HT_ rfl rfl ?_
        refine done_ (done_of HT_.out (by kernel_rfl)) ?_
        try go_wp2
        go_roundg k1
        case measure => have := HK1.out; omega
        case rel => exact ⟨(wrap64 (x5_1 + 1)), (by first | rfl | (simp; done) | (simp [*]; done)), H', ⟨by have := HK1.out; omega⟩, ⟨bl⟩⟩
       ·replace c8 := Bool.eq_false_iff.mpr c8
        subst c8
        replace H := ie H
        obtain rfl := Option.some.inj H; clear H
        try go_wp2
        replace HB := Aside0.mk (below_drew1 HB.out)
        have p434 : 0 ≤ (x5_1 : Int) := od
        have q434 : x5_1 < (l0.length : Int) := od
        obtain ⟨ad434, e434, hx434_0, hx434_1, hx434_2, hx434_3⟩ := at_T73 HR0.out x5_1 p434 q434
        have hw434_3 := hx434_3
        have hw434_2 := hx434_2
        have hw434_1 := hx434_1
        have hw434_0 := hx434_0
        cases e434
        obtain ⟨hx434_0,hx434_1,hx434_2,hx434_3⟩ := hc4 HB hx434_0 hx434_1 hx434_2 hx434_3
        replace p434 := eq_true p434
        replace q434 := eq_true q434
        have p435 : 0 ≤ (x5_1 : Int) := od
        have q435 : x5_1 < (l1.length : Int) := od
        obtain ⟨ad435, e435, hx435_0, hx435_1, hx435_2, hx435_3⟩ := at_T73 HR1.out x5_1 p435 q435
        have hw435_3 := hx435_3
        have hw435_2 := hx435_2
        have hw435_1 := hx435_1
        have hw435_0 := hx435_0
        cases e435
        obtain ⟨hx435_0,hx435_1,hx435_2,hx435_3⟩ := hc4 HB hx435_0 hx435_1 hx435_2 hx435_3
        replace p435 := eq_true p435
        replace q435 := eq_true q435
        refine start_ (n := 10) (S := fun w' => w'.cell? (ad434.add ((x5_1).toNat * 4)) = some (.int .i64 ((rd_T73 l0 x5_1).f0)) ∧ w'.cell? ⟨(ad434.add ((x5_1).toNat * 4)).block, (ad434.add ((x5_1).toNat * 4)).off + 1, none⟩ = some (.int .i64 ((rd_T73 l0 x5_1).f1)) ∧ w'.cell? ⟨(ad434.add ((x5_1).toNat * 4)).block, (ad434.add ((x5_1).toNat * 4)).off + 2, none⟩ = some (.int .i64 ((rd_T73 l0 x5_1).f2)) ∧ w'.cell? ⟨(ad434.add ((x5_1).toNat * 4)).block, (ad434.add ((x5_1).toNat * 4)).off + 3, none⟩ = some (.int .i64 ((rd_T73 l0 x5_1).f3)) ∧ w'.cell? (ad435.add ((x5_1).toNat * 4)) = some (.int .i64 ((rd_T73 l1 x5_1).f0)) ∧ w'.cell? ⟨(ad435.add ((x5_1).toNat * 4)).block, (ad435.add ((x5_1).toNat * 4)).off + 1, none⟩ = some (.int .i64 ((rd_T73 l1 x5_1).f1)) ∧ w'.cell? ⟨(ad435.add ((x5_1).toNat * 4)).block, (ad435.add ((x5_1).toNat * 4)).off + 2, none⟩ = some (.int .i64 ((rd_T73 l1 x5_1).f2)) ∧ w'.cell? ⟨(ad435.add ((x5_1).toNat * 4)).block, (ad435.add ((x5_1).toNat * 4)).off + 3, none⟩ = some (.int .i64 ((rd_T73 l1 x5_1).f3))) (ds := []) #[false, false, false, false, false, false, false, false, false, false] (by kernel_rfl) rfl rfl ⟨((HB.out.cell (World.block_lt_of_cell? w _ hw434_0)).trans hw434_0), ((HB.out.cell (World.block_lt_of_cell? w _ hw434_1)).trans hw434_1), ((HB.out.cell (World.block_lt_of_cell? w _ hw434_2)).trans hw434_2), ((HB.out.cell (World.block_lt_of_cell? w _ hw434_3)).trans hw434_3), ((HB.out.cell (World.block_lt_of_cell? w _ hw435_0)).trans hw435_0), ((HB.out.cell (World.block_lt_of_cell? w _ hw435_1)).trans hw435_1), ((HB.out.cell (World.block_lt_of_cell? w _ hw435_2)).trans hw435_2), ((HB.out.cell (World.block_lt_of_cell? w _ hw435_3)).trans hw435_3)⟩ (fun hHeld => ?_); refine with_tabW laws_eqCatchS.tab6 laws_eqCatchS.bits6 (fun HT_ HW_ => ?_)
        generalize wr.drew = w11 at HB hx434_0 hx434_1 hx434_2 hx434_3 hx435_0 hx435_1 hx435_2 hx435_3 hHeld ⊢
        refine pu 0 17 #[true, false, false, false, false, false, false, false, false, false] HT_ rfl rfl ?_
        refine pu 1 18 #[true, true, false, false, false, false, false, false, false, false] HT_ rfl rfl ?_
        refine pu 2 19 #[true, true, true, false, false, false, false, false, false, false] HT_ rfl rfl ?_
        refine pu 4 21 #[true, true, true, false, true, false, false, false, false, false] HT_ rfl rfl ?_
        refine pu 5 22 #[true, true, true, false, true, true, false, false, false, false] HT_ rfl rfl ?_
        refine pu 6 23 #[true, true, true, false, true, true, true, false, false, false] HT_ rfl rfl ?_
        refine ta 3 20 #[true, true, true, true, true, true, true, false, false, false] HT_ HW_ hHeld rfl rfl ?_
        refine ta 7 24 #[true, true, true, true, true, true, true, true, false, false] HT_ HW_ hHeld rfl rfl ?_
        refine one_ (i := 8) (N := some 25) #[true, true, true, true, true, true, true, true, true, false] rfl rfl (one_of HT_.out (by kernel_rfl)) (by decide) (fun K hK => ?_)
        refine gs Try.func75 #[.agg #[.int .i64 ((rd_T73 l0 x5_1).f0), .int .i64 ((rd_T73 l0 x5_1).f1), .int .i64 ((rd_T73 l0 x5_1).f2), .int .i64 ((rd_T73 l0 x5_1).f3)], .agg #[.int .i64 ((rd_T73 l1 x5_1).f0), .int .i64 ((rd_T73 l1 x5_1).f1), .int .i64 ((rd_T73 l1 x5_1).f2), .int .i64 ((rd_T73 l1 x5_1).f3)]] rfl rfl ?_
        with_reducible refine (laws_eqCatch.calls ((rd_T73 l0 x5_1).f0) ((rd_T73 l0 x5_1).f1) ((rd_T73 l0 x5_1).f2) ((rd_T73 l0 x5_1).f3) ((rd_T73 l1 x5_1).f0) ((rd_T73 l1 x5_1).f1) ((rd_T73 l1 x5_1).f2) ((rd_T73 l1 x5_1).f3) false _ A7.out).mono ?_
        rintro e w12 ⟨rfl, hb⟩
        refine ⟨_, rfl, ?_⟩
        replace HB := hs HB hb
        (try clear hb)
        (try clear hb2)
        (try clear hk)
        (try clear hi)
        refine hK.out _ _ ⟨((HB.out.cell (World.block_lt_of_cell? w _ hw434_0)).trans hw434_0), ((HB.out.cell (World.block_lt_of_cell? w _ hw434_1)).trans hw434_1), ((HB.out.cell (World.block_lt_of_cell? w _ hw434_2)).trans hw434_2), ((HB.out.cell (World.block_lt_of_cell? w _ hw434_3)).trans hw434_3), ((HB.out.cell (World.block_lt_of_cell? w _ hw435_0)).trans hw435_0), ((HB.out.cell (World.block_lt_of_cell? w _ hw435_1)).trans hw435_1), ((HB.out.cell (World.block_lt_of_cell? w _ hw435_2)).trans hw435_2), ((HB.out.cell (World.block_lt_of_cell? w _ hw435_3)).trans hw435_3)⟩ (fun hHeld => ?_)
        clear hK K
        refine no 25 ?_
        refine pu 9 26 #[true, true, true, true, true, true, true, true, true, true] HT_ rfl rfl ?_
        refine done_ (done_of HT_.out (by kernel_rfl)) ?_
        try go_wp2
        go_ret
        exact fin
      ·rw [if_neg c6] at H
       exact absurd H (by simp)
     ·rw [if_neg c5] at H
      exact absurd H (by simp)
    ·rw [if_neg c4] at H
     have c4b0 : decide (x5_1 < (l0.length : Int)) = false := decide_eq_false c4
     clear c4
     obtain rfl := Option.some.inj H; clear H
     go_wp2
     go_ret
     exact fin
 ·rw [if_neg c3] at H
  have c3b0 := beq_eq_false_iff_ne.mpr c3
  have c3b1 := bne_iff_ne.mpr c3
  have c3b2 : (l0.length == l1.length) = false := by first | simpa using c3 | (simp at c3 ⊢; omega)
  obtain rfl := Option.some.inj H; clear H
  go_enter Try.func68, Try.ntmps68
  go_wp2
  go_ret
  exact fin
end Go.Proofs.Ytedodaifpekahaa.P

end
section

namespace Go.Proofs.Ytedodaifpekahaa.P
open Go.RowKit Go.Proofs.YtedodaifpekahaaW.PrintWords Go.Proofs.YtedodaifpekahaaW.PrintLast Go.Proofs.YtedodaifpekahaaW.PrintMore
attribute [local go_sem] max2_int min2_int max_two min_two max_three min_three max_four min_four
set_option linter.unusedVariables false
set_option linter.unusedSimpArgs false
set_option maxHeartbeats 8000000 in
set_option maxRecDepth 100000 in
theorem laws_eqMethod.calls (k : Nat) (a0_0 : Int) (a0_1 : Int) (A0_2 : Option Addr) (c0_2 : Nat) (l0_2 : List Int) (a0_3 : Int) (a0_4 : Int) (A0_5 : Option Addr) (c0_5 : Nat) (l0_5 : List (S67)) (A0_6 : Option Addr) (c0_6 : Nat) (l0_6 : List (S70)) (A0_7 : Option Addr) (c0_7 : Nat) (l0_7 : List (S73)) (a1_0 : Int) (a1_1 : Int) (A1_2 : Option Addr) (c1_2 : Nat) (l1_2 : List Int) (a1_3 : Int) (a1_4 : Int) (A1_5 : Option Addr) (c1_5 : Nat) (l1_5 : List (S67)) (A1_6 : Option Addr) (c1_6 : Nat) (l1_6 : List (S70)) (A1_7 : Option Addr) (c1_7 : Nat) (l1_7 : List (S73)) (r : Bool) (w : World) (hr0_2 : Kd.C (Kd.int .i64) w A0_2 l0_2.length l0_2) (hc0_2 : l0_2.length ≤ c0_2) (hr0_5 : Kd.C k67 w A0_5 l0_5.length l0_5) (hc0_5 : l0_5.length ≤ c0_5) (hr0_6 : Kd.C k70 w A0_6 l0_6.length l0_6) (hc0_6 : l0_6.length ≤ c0_6) (hr0_7 : Kd.C k73 w A0_7 l0_7.length l0_7) (hc0_7 : l0_7.length ≤ c0_7) (hr1_2 : Kd.C (Kd.int .i64) w A1_2 l1_2.length l1_2) (hc1_2 : l1_2.length ≤ c1_2) (hr1_5 : Kd.C k67 w A1_5 l1_5.length l1_5) (hc1_5 : l1_5.length ≤ c1_5) (hr1_6 : Kd.C k70 w A1_6 l1_6.length l1_6) (hc1_6 : l1_6.length ≤ c1_6) (hr1_7 : Kd.C k73 w A1_7 l1_7.length l1_7) (hc1_7 : l1_7.length ≤ c1_7) (h : laws_eqMethod.f k a0_0 a0_1 l0_2 a0_3 a0_4 l0_5 l0_6 l0_7 a1_0 a1_1 l1_2 a1_3 a1_4 l1_5 l1_6 l1_7 = some r) :
  Calls Try.prog 49 #[.agg #[.int .i64 a0_0, .int .i64 a0_1, .slice A0_2 l0_2.length c0_2, .int .i64 a0_3, .int .i64 a0_4, .slice A0_5 l0_5.length c0_5, .slice A0_6 l0_6.length c0_6, .slice A0_7 l0_7.length c0_7], .agg #[.int .i64 a1_0, .int .i64 a1_1, .slice A1_2 l1_2.length c1_2, .int .i64 a1_3, .int .i64 a1_4, .slice A1_5 l1_5.length c1_5, .slice A1_6 l1_6.length c1_6, .slice A1_7 l1_7.length c1_7]] w fun e w' => e = .returned (.bool r) ∧ Below w.heap.size w w' := by
 have hu46 := Try.underlying46
 have HR0_2 := Aside0.mk hr0_2
 have HC0_2 := Aside0.mk hc0_2
 clear hr0_2 hc0_2
 have HR0_5 := Aside0.mk hr0_5
 have HC0_5 := Aside0.mk hc0_5
 clear hr0_5 hc0_5
 have HR0_6 := Aside0.mk hr0_6
 have HC0_6 := Aside0.mk hc0_6
 clear hr0_6 hc0_6
 have HR0_7 := Aside0.mk hr0_7
 have HC0_7 := Aside0.mk hc0_7
 clear hr0_7 hc0_7
 have HR1_2 := Aside0.mk hr1_2
 have HC1_2 := Aside0.mk hc1_2
 clear hr1_2 hc1_2
 have HR1_5 := Aside0.mk hr1_5
 have HC1_5 := Aside0.mk hc1_5
 clear hr1_5 hc1_5
 have HR1_6 := Aside0.mk hr1_6
 have HC1_6 := Aside0.mk hc1_6
 clear hr1_6 hc1_6
 have HR1_7 := Aside0.mk hr1_7
 have HC1_7 := Aside0.mk hc1_7
 clear hr1_7 hc1_7
 have HB := Aside0.mk (Below.refl w.heap.size w)
 have H : (if a0_0 = a1_0 then (if a0_1 = a1_1 then ((laws_eqIntS.f k l0_2 l1_2).bind fun t439 => (if t439 = true then (if a0_3 = a1_3 then (if a0_4 = a1_4 then ((laws_eqInsS.f k l0_5 l1_5).bind fun t440 => (if t440 = true then ((laws_eqShapeS.f k l0_6 l1_6).bind fun t441 => (if t441 = true then ((laws_eqCatchS.f k l0_7 l1_7).bind fun t442 => (if t442 = true then (some true) else (some false))) else (some false))) else (some false))) else (some false)) else (some false)) else (some false))) else (some false)) else (some false)) = some r := h
 clear h
 by_cases c3 : a0_0 = a1_0
 ·rw [if_pos c3] at H
  have c3b0 := beq_iff_eq.mpr c3
  have c3b1 := bne_eq_false_iff_eq.mpr c3
  clear c3
  by_cases c4 : a0_1 = a1_1
  ·rw [if_pos c4] at H
   have c4b0 := beq_iff_eq.mpr c4
   have c4b1 := bne_eq_false_iff_eq.mpr c4
   clear c4
   obtain ⟨t439, A5, H⟩ := ob H
   by_cases c6 : t439 = true
   ·subst c6
    replace H := it H
    by_cases c7 : a0_3 = a1_3
    ·rw [if_pos c7] at H
     have c7b0 := beq_iff_eq.mpr c7
     have c7b1 := bne_eq_false_iff_eq.mpr c7
     clear c7
     by_cases c8 : a0_4 = a1_4
     ·rw [if_pos c8] at H
      have c8b0 := beq_iff_eq.mpr c8
      have c8b1 := bne_eq_false_iff_eq.mpr c8
      clear c8
      obtain ⟨t440, A9, H⟩ := ob H
      by_cases c10 : t440 = true
      ·subst c10
       replace H := it H
       obtain ⟨t441, A11, H⟩ := ob H
       by_cases c12 : t441 = true
       ·subst c12
        replace H := it H
        obtain ⟨t442, A13, H⟩ := ob H
        by_cases c14 : t442 = true
        ·subst c14
         replace H := it H
         obtain rfl := Option.some.inj H; clear H
         go_enter Try.func49, Try.ntmps49
         go_wp2_with (first | ((with_reducible refine gd 2 rfl ?_); refine bx 2 #[.int .i64 a0_0, .int .i64 a0_1, .slice A0_2 l0_2.length c0_2, .int .i64 a0_3, .int .i64 a0_4, .slice A0_5 l0_5.length c0_5, .slice A0_6 l0_6.length c0_6, .slice A0_7 l0_7.length c0_7] 46 ?_; intro gb437 hg w15 hbox hb; have BK437 := Aside0.mk hbox; have GW437 := hz HB hg; have GE437 := hz HB hg; replace HB := hs HB hb; clear hb hbox hg) | ((with_reducible refine gd 3 rfl ?_); refine bx 3 #[.int .i64 a1_0, .int .i64 a1_1, .slice A1_2 l1_2.length c1_2, .int .i64 a1_3, .int .i64 a1_4, .slice A1_5 l1_5.length c1_5, .slice A1_6 l1_6.length c1_6, .slice A1_7 l1_7.length c1_7] 46 ?_; intro gb438 hg w16 hbox hb; have BK438 := Aside0.mk hbox; have GW438 := hz HB hg; have GE438 := hz HB hg; have NB437_438 := nl BK437 hg; have NB438_437 := ng BK437 hg; replace BK437 := kb BK437 hb; replace HB := hs HB hb; clear hb hbox hg; have hnb17 := NB437_438.out; have hnc17 := NB438_437.out; obtain ⟨_,_,_,_,_,_,_,_,_,_,_,_,_,_,_,_⟩ := cf8 BK437; obtain ⟨_,_,_,_,_,_,_,_,_,_,_,_,_,_,_,_⟩ := cf8 BK438) | ((with_reducible refine gc 65 rfl ?_); refine gl (some 19) Try.func65 #[.slice A0_2 l0_2.length c0_2, .slice A1_2 l1_2.length c1_2] rfl ?_; (with_reducible refine (laws_eqIntS.calls k _ _ l0_2 _ _ l1_2 true _ ?side1 ?side2 ?side3 ?side4 A5.out).mono ?_); (case side1 => exact cb HR0_2.out); (case side2 => exact HC0_2.out); (case side3 => exact cb HR1_2.out); (case side4 => exact HC1_2.out); rintro e w' ⟨rfl, ⟨nd, rfl⟩⟩; refine ⟨_, rfl, ?_⟩) | ((with_reducible refine gc 66 rfl ?_); refine gl (some 35) Try.func66 #[.slice A0_5 l0_5.length c0_5, .slice A1_5 l1_5.length c1_5] rfl ?_; (with_reducible refine (laws_eqInsS.calls k _ _ l0_5 _ _ l1_5 true _ ?side1 ?side2 ?side3 ?side4 A9.out).mono ?_); (case side1 => exact cb HR0_5.out); (case side2 => exact HC0_5.out); (case side3 => exact cb HR1_5.out); (case side4 => exact HC1_5.out); rintro e w20 ⟨rfl, hb⟩; refine ⟨_, rfl, ?_⟩; replace BK437 := kb BK437 hb; replace BK438 := kb BK438 hb; replace HB := hs HB hb; (try clear hb); obtain ⟨_,_,_,_,_,_,_,_,_,_,_,_,_,_,_,_⟩ := cf8 BK437; obtain ⟨_,_,_,_,_,_,_,_,_,_,_,_,_,_,_,_⟩ := cf8 BK438) | ((with_reducible refine gc 67 rfl ?_); refine gl (some 41) Try.func67 #[.slice A0_6 l0_6.length c0_6, .slice A1_6 l1_6.length c1_6] rfl ?_; (with_reducible refine (laws_eqShapeS.calls k _ _ l0_6 _ _ l1_6 true _ ?side1 ?side2 ?side3 ?side4 A11.out).mono ?_); (case side1 => exact cb HR0_6.out); (case side2 => exact HC0_6.out); (case side3 => exact cb HR1_6.out); (case side4 => exact HC1_6.out); rintro e w23 ⟨rfl, hb⟩; refine ⟨_, rfl, ?_⟩; replace BK437 := kb BK437 hb; replace BK438 := kb BK438 hb; replace HB := hs HB hb; (try clear hb); obtain ⟨_,_,_,_,_,_,_,_,_,_,_,_,_,_,_,_⟩ := cf8 BK437; obtain ⟨_,_,_,_,_,_,_,_,_,_,_,_,_,_,_,_⟩ := cf8 BK438) | ((with_reducible refine gc 68 rfl ?_); refine gl (some 47) Try.func68 #[.slice A0_7 l0_7.length c0_7, .slice A1_7 l1_7.length c1_7] rfl ?_; (with_reducible refine (laws_eqCatchS.calls k _ _ l0_7 _ _ l1_7 true _ ?side1 ?side2 ?side3 ?side4 A13.out).mono ?_); (case side1 => exact cb HR0_7.out); (case side2 => exact HC0_7.out); (case side3 => exact cb HR1_7.out); (case side4 => exact HC1_7.out); rintro e w26 ⟨rfl, hb⟩; refine ⟨_, rfl, ?_⟩; replace BK437 := kb BK437 hb; replace BK438 := kb BK438 hb; replace HB := hs HB hb; (try clear hb)))
         go_ret
         exact fin
        ·replace c14 := Bool.eq_false_iff.mpr c14
         subst c14
         replace H := ie H
         obtain rfl := Option.some.inj H; clear H
         go_enter Try.func49, Try.ntmps49
         go_wp2_with (first | ((with_reducible refine gd 2 rfl ?_); refine bx 2 #[.int .i64 a0_0, .int .i64 a0_1, .slice A0_2 l0_2.length c0_2, .int .i64 a0_3, .int .i64 a0_4, .slice A0_5 l0_5.length c0_5, .slice A0_6 l0_6.length c0_6, .slice A0_7 l0_7.length c0_7] 46 ?_; intro gb437 hg w27 hbox hb; have BK437 := Aside0.mk hbox; have GW437 := hz HB hg; have GE437 := hz HB hg; replace HB := hs HB hb; clear hb hbox hg) | ((with_reducible refine gd 3 rfl ?_); refine bx 3 #[.int .i64 a1_0, .int .i64 a1_1, .slice A1_2 l1_2.length c1_2, .int .i64 a1_3, .int .i64 a1_4, .slice A1_5 l1_5.length c1_5, .slice A1_6 l1_6.length c1_6, .slice A1_7 l1_7.length c1_7] 46 ?_; intro gb438 hg w28 hbox hb; have BK438 := Aside0.mk hbox; have GW438 := hz HB hg; have GE438 := hz HB hg; have NB437_438 := nl BK437 hg; have NB438_437 := ng BK437 hg; replace BK437 := kb BK437 hb; replace HB := hs HB hb; clear hb hbox hg; have hnb29 := NB437_438.out; have hnc29 := NB438_437.out; obtain ⟨_,_,_,_,_,_,_,_,_,_,_,_,_,_,_,_⟩ := cf8 BK437; obtain ⟨_,_,_,_,_,_,_,_,_,_,_,_,_,_,_,_⟩ := cf8 BK438) | ((with_reducible refine gc 65 rfl ?_); refine gl (some 19) Try.func65 #[.slice A0_2 l0_2.length c0_2, .slice A1_2 l1_2.length c1_2] rfl ?_; (with_reducible refine (laws_eqIntS.calls k _ _ l0_2 _ _ l1_2 true _ ?side1 ?side2 ?side3 ?side4 A5.out).mono ?_); (case side1 => exact cb HR0_2.out); (case side2 => exact HC0_2.out); (case side3 => exact cb HR1_2.out); (case side4 => exact HC1_2.out); rintro e w' ⟨rfl, ⟨nd, rfl⟩⟩; refine ⟨_, rfl, ?_⟩) | ((with_reducible refine gc 66 rfl ?_); refine gl (some 35) Try.func66 #[.slice A0_5 l0_5.length c0_5, .slice A1_5 l1_5.length c1_5] rfl ?_; (with_reducible refine (laws_eqInsS.calls k _ _ l0_5 _ _ l1_5 true _ ?side1 ?side2 ?side3 ?side4 A9.out).mono ?_); (case side1 => exact cb HR0_5.out); (case side2 => exact HC0_5.out); (case side3 => exact cb HR1_5.out); (case side4 => exact HC1_5.out); rintro e w32 ⟨rfl, hb⟩; refine ⟨_, rfl, ?_⟩; replace BK437 := kb BK437 hb; replace BK438 := kb BK438 hb; replace HB := hs HB hb; (try clear hb); obtain ⟨_,_,_,_,_,_,_,_,_,_,_,_,_,_,_,_⟩ := cf8 BK437; obtain ⟨_,_,_,_,_,_,_,_,_,_,_,_,_,_,_,_⟩ := cf8 BK438) | ((with_reducible refine gc 67 rfl ?_); refine gl (some 41) Try.func67 #[.slice A0_6 l0_6.length c0_6, .slice A1_6 l1_6.length c1_6] rfl ?_; (with_reducible refine (laws_eqShapeS.calls k _ _ l0_6 _ _ l1_6 true _ ?side1 ?side2 ?side3 ?side4 A11.out).mono ?_); (case side1 => exact cb HR0_6.out); (case side2 => exact HC0_6.out); (case side3 => exact cb HR1_6.out); (case side4 => exact HC1_6.out); rintro e w35 ⟨rfl, hb⟩; refine ⟨_, rfl, ?_⟩; replace BK437 := kb BK437 hb; replace BK438 := kb BK438 hb; replace HB := hs HB hb; (try clear hb); obtain ⟨_,_,_,_,_,_,_,_,_,_,_,_,_,_,_,_⟩ := cf8 BK437; obtain ⟨_,_,_,_,_,_,_,_,_,_,_,_,_,_,_,_⟩ := cf8 BK438) | ((with_reducible refine gc 68 rfl ?_); refine gl (some 47) Try.func68 #[.slice A0_7 l0_7.length c0_7, .slice A1_7 l1_7.length c1_7] rfl ?_; (with_reducible refine (laws_eqCatchS.calls k _ _ l0_7 _ _ l1_7 false _ ?side1 ?side2 ?side3 ?side4 A13.out).mono ?_); (case side1 => exact cb HR0_7.out); (case side2 => exact HC0_7.out); (case side3 => exact cb HR1_7.out); (case side4 => exact HC1_7.out); rintro e w38 ⟨rfl, hb⟩; refine ⟨_, rfl, ?_⟩; replace BK437 := kb BK437 hb; replace BK438 := kb BK438 hb; replace HB := hs HB hb; (try clear hb)))
         go_ret
         exact fin
       ·replace c12 := Bool.eq_false_iff.mpr c12
        subst c12
        replace H := ie H
        obtain rfl := Option.some.inj H; clear H
        go_enter Try.func49, Try.ntmps49
        go_wp2_with (first | ((with_reducible refine gd 2 rfl ?_); refine bx 2 #[.int .i64 a0_0, .int .i64 a0_1, .slice A0_2 l0_2.length c0_2, .int .i64 a0_3, .int .i64 a0_4, .slice A0_5 l0_5.length c0_5, .slice A0_6 l0_6.length c0_6, .slice A0_7 l0_7.length c0_7] 46 ?_; intro gb437 hg w39 hbox hb; have BK437 := Aside0.mk hbox; have GW437 := hz HB hg; have GE437 := hz HB hg; replace HB := hs HB hb; clear hb hbox hg) | ((with_reducible refine gd 3 rfl ?_); refine bx 3 #[.int .i64 a1_0, .int .i64 a1_1, .slice A1_2 l1_2.length c1_2, .int .i64 a1_3, .int .i64 a1_4, .slice A1_5 l1_5.length c1_5, .slice A1_6 l1_6.length c1_6, .slice A1_7 l1_7.length c1_7] 46 ?_; intro gb438 hg w40 hbox hb; have BK438 := Aside0.mk hbox; have GW438 := hz HB hg; have GE438 := hz HB hg; have NB437_438 := nl BK437 hg; have NB438_437 := ng BK437 hg; replace BK437 := kb BK437 hb; replace HB := hs HB hb; clear hb hbox hg; have hnb41 := NB437_438.out; have hnc41 := NB438_437.out; obtain ⟨_,_,_,_,_,_,_,_,_,_,_,_,_,_,_,_⟩ := cf8 BK437; obtain ⟨_,_,_,_,_,_,_,_,_,_,_,_,_,_,_,_⟩ := cf8 BK438) | ((with_reducible refine gc 65 rfl ?_); refine gl (some 19) Try.func65 #[.slice A0_2 l0_2.length c0_2, .slice A1_2 l1_2.length c1_2] rfl ?_; (with_reducible refine (laws_eqIntS.calls k _ _ l0_2 _ _ l1_2 true _ ?side1 ?side2 ?side3 ?side4 A5.out).mono ?_); (case side1 => exact cb HR0_2.out); (case side2 => exact HC0_2.out); (case side3 => exact cb HR1_2.out); (case side4 => exact HC1_2.out); rintro e w' ⟨rfl, ⟨nd, rfl⟩⟩; refine ⟨_, rfl, ?_⟩) | ((with_reducible refine gc 66 rfl ?_); refine gl (some 35) Try.func66 #[.slice A0_5 l0_5.length c0_5, .slice A1_5 l1_5.length c1_5] rfl ?_; (with_reducible refine (laws_eqInsS.calls k _ _ l0_5 _ _ l1_5 true _ ?side1 ?side2 ?side3 ?side4 A9.out).mono ?_); (case side1 => exact cb HR0_5.out); (case side2 => exact HC0_5.out); (case side3 => exact cb HR1_5.out); (case side4 => exact HC1_5.out); rintro e w44 ⟨rfl, hb⟩; refine ⟨_, rfl, ?_⟩; replace BK437 := kb BK437 hb; replace BK438 := kb BK438 hb; replace HB := hs HB hb; (try clear hb); obtain ⟨_,_,_,_,_,_,_,_,_,_,_,_,_,_,_,_⟩ := cf8 BK437; obtain ⟨_,_,_,_,_,_,_,_,_,_,_,_,_,_,_,_⟩ := cf8 BK438) | ((with_reducible refine gc 67 rfl ?_); refine gl (some 41) Try.func67 #[.slice A0_6 l0_6.length c0_6, .slice A1_6 l1_6.length c1_6] rfl ?_; (with_reducible refine (laws_eqShapeS.calls k _ _ l0_6 _ _ l1_6 false _ ?side1 ?side2 ?side3 ?side4 A11.out).mono ?_); (case side1 => exact cb HR0_6.out); (case side2 => exact HC0_6.out); (case side3 => exact cb HR1_6.out); (case side4 => exact HC1_6.out); rintro e w47 ⟨rfl, hb⟩; refine ⟨_, rfl, ?_⟩; replace BK437 := kb BK437 hb; replace BK438 := kb BK438 hb; replace HB := hs HB hb; (try clear hb)))
        go_ret
        exact fin
      ·replace c10 := Bool.eq_false_iff.mpr c10
       subst c10
       replace H := ie H
       obtain rfl := Option.some.inj H; clear H
       go_enter Try.func49, Try.ntmps49
       go_wp2_with (first | ((with_reducible refine gd 2 rfl ?_); refine bx 2 #[.int .i64 a0_0, .int .i64 a0_1, .slice A0_2 l0_2.length c0_2, .int .i64 a0_3, .int .i64 a0_4, .slice A0_5 l0_5.length c0_5, .slice A0_6 l0_6.length c0_6, .slice A0_7 l0_7.length c0_7] 46 ?_; intro gb437 hg w48 hbox hb; have BK437 := Aside0.mk hbox; have GW437 := hz HB hg; have GE437 := hz HB hg; replace HB := hs HB hb; clear hb hbox hg) | ((with_reducible refine gd 3 rfl ?_); refine bx 3 #[.int .i64 a1_0, .int .i64 a1_1, .slice A1_2 l1_2.length c1_2, .int .i64 a1_3, .int .i64 a1_4, .slice A1_5 l1_5.length c1_5, .slice A1_6 l1_6.length c1_6, .slice A1_7 l1_7.length c1_7] 46 ?_; intro gb438 hg w49 hbox hb; have BK438 := Aside0.mk hbox; have GW438 := hz HB hg; have GE438 := hz HB hg; have NB437_438 := nl BK437 hg; have NB438_437 := ng BK437 hg; replace BK437 := kb BK437 hb; replace HB := hs HB hb; clear hb hbox hg; have hnb50 := NB437_438.out; have hnc50 := NB438_437.out; obtain ⟨_,_,_,_,_,_,_,_,_,_,_,_,_,_,_,_⟩ := cf8 BK437; obtain ⟨_,_,_,_,_,_,_,_,_,_,_,_,_,_,_,_⟩ := cf8 BK438) | ((with_reducible refine gc 65 rfl ?_); refine gl (some 19) Try.func65 #[.slice A0_2 l0_2.length c0_2, .slice A1_2 l1_2.length c1_2] rfl ?_; (with_reducible refine (laws_eqIntS.calls k _ _ l0_2 _ _ l1_2 true _ ?side1 ?side2 ?side3 ?side4 A5.out).mono ?_); (case side1 => exact cb HR0_2.out); (case side2 => exact HC0_2.out); (case side3 => exact cb HR1_2.out); (case side4 => exact HC1_2.out); rintro e w' ⟨rfl, ⟨nd, rfl⟩⟩; refine ⟨_, rfl, ?_⟩) | ((with_reducible refine gc 66 rfl ?_); refine gl (some 35) Try.func66 #[.slice A0_5 l0_5.length c0_5, .slice A1_5 l1_5.length c1_5] rfl ?_; (with_reducible refine (laws_eqInsS.calls k _ _ l0_5 _ _ l1_5 false _ ?side1 ?side2 ?side3 ?side4 A9.out).mono ?_); (case side1 => exact cb HR0_5.out); (case side2 => exact HC0_5.out); (case side3 => exact cb HR1_5.out); (case side4 => exact HC1_5.out); rintro e w53 ⟨rfl, hb⟩; refine ⟨_, rfl, ?_⟩; replace BK437 := kb BK437 hb; replace BK438 := kb BK438 hb; replace HB := hs HB hb; (try clear hb)))
       go_ret
       exact fin
     ·rw [if_neg c8] at H
      have c8b0 := beq_eq_false_iff_ne.mpr c8
      have c8b1 := bne_iff_ne.mpr c8
      obtain rfl := Option.some.inj H; clear H
      go_enter Try.func49, Try.ntmps49
      go_wp2_with (first | ((with_reducible refine gc 65 rfl ?_); refine gl (some 19) Try.func65 #[.slice A0_2 l0_2.length c0_2, .slice A1_2 l1_2.length c1_2] rfl ?_; (with_reducible refine (laws_eqIntS.calls k _ _ l0_2 _ _ l1_2 true _ ?side1 ?side2 ?side3 ?side4 A5.out).mono ?_); (case side1 => exact cb HR0_2.out); (case side2 => exact HC0_2.out); (case side3 => exact cb HR1_2.out); (case side4 => exact HC1_2.out); rintro e w' ⟨rfl, ⟨nd, rfl⟩⟩; refine ⟨_, rfl, ?_⟩))
      go_ret
      exact fin
    ·rw [if_neg c7] at H
     have c7b0 := beq_eq_false_iff_ne.mpr c7
     have c7b1 := bne_iff_ne.mpr c7
     obtain rfl := Option.some.inj H; clear H
     go_enter Try.func49, Try.ntmps49
     go_wp2_with (first | ((with_reducible refine gc 65 rfl ?_); refine gl (some 19) Try.func65 #[.slice A0_2 l0_2.length c0_2, .slice A1_2 l1_2.length c1_2] rfl ?_; (with_reducible refine (laws_eqIntS.calls k _ _ l0_2 _ _ l1_2 true _ ?side1 ?side2 ?side3 ?side4 A5.out).mono ?_); (case side1 => exact cb HR0_2.out); (case side2 => exact HC0_2.out); (case side3 => exact cb HR1_2.out); (case side4 => exact HC1_2.out); rintro e w' ⟨rfl, ⟨nd, rfl⟩⟩; refine ⟨_, rfl, ?_⟩))
     go_ret
     exact fin
   ·replace c6 := Bool.eq_false_iff.mpr c6
    subst c6
    replace H := ie H
    obtain rfl := Option.some.inj H; clear H
    go_enter Try.func49, Try.ntmps49
    go_wp2_with (first | ((with_reducible refine gc 65 rfl ?_); refine gl (some 19) Try.func65 #[.slice A0_2 l0_2.length c0_2, .slice A1_2 l1_2.length c1_2] rfl ?_; (with_reducible refine (laws_eqIntS.calls k _ _ l0_2 _ _ l1_2 false _ ?side1 ?side2 ?side3 ?side4 A5.out).mono ?_); (case side1 => exact cb HR0_2.out); (case side2 => exact HC0_2.out); (case side3 => exact cb HR1_2.out); (case side4 => exact HC1_2.out); rintro e w' ⟨rfl, ⟨nd, rfl⟩⟩; refine ⟨_, rfl, ?_⟩))
    go_ret
    exact fin
  ·rw [if_neg c4] at H
   have c4b0 := beq_eq_false_iff_ne.mpr c4
   have c4b1 := bne_iff_ne.mpr c4
   obtain rfl := Option.some.inj H; clear H
   go_enter Try.func49, Try.ntmps49
   go_wp2
   go_ret
   exact fin
 ·rw [if_neg c3] at H
  have c3b0 := beq_eq_false_iff_ne.mpr c3
  have c3b1 := bne_iff_ne.mpr c3
  obtain rfl := Option.some.inj H; clear H
  go_enter Try.func49, Try.ntmps49
  go_wp2
  go_ret
  exact fin
end Go.Proofs.Ytedodaifpekahaa.P

end
section

namespace Go.Proofs.Ytedodaifpekahaa.P
open Go.RowKit Go.Proofs.YtedodaifpekahaaW.PrintWords Go.Proofs.YtedodaifpekahaaW.PrintLast Go.Proofs.YtedodaifpekahaaW.PrintMore
attribute [local go_sem] max2_int min2_int max_two min_two max_three min_three max_four min_four
set_option linter.unusedVariables false
set_option linter.unusedSimpArgs false
def laws_eqMethodS.T6 : Bool × List (List Nat × List Nat) := (true, [([], []), ([], []), ([0, 1], [0, 1]), ([2], [2]), ([], []), ([], []), ([4, 5], [4, 5]), ([6], [6]), ([3, 7], [3, 7]), ([8], [8])])
def laws_eqMethodS.B6 : List Nat := [0, 0, 3, 7, 0, 0, 48, 112, 255, 511]
theorem laws_eqMethodS.tab6 : rtab .any (opsOf Try.f27 6) = laws_eqMethodS.T6 := by kernel_rfl
theorem laws_eqMethodS.bits6 : waitsOk laws_eqMethodS.T6.2 laws_eqMethodS.B6 = true := by kernel_rfl
set_option maxHeartbeats 8000000 in
set_option maxRecDepth 100000 in
theorem laws_eqMethodS.calls (k : Nat) (A0 : Option Addr) (c0 : Nat) (l0 : List (S46)) (A1 : Option Addr) (c1 : Nat) (l1 : List (S46)) (r : Bool) (w : World) (hr0 : Kd.C k46 w A0 l0.length l0) (hc0 : l0.length ≤ c0) (hr1 : Kd.C k46 w A1 l1.length l1) (hc1 : l1.length ≤ c1) (h : laws_eqMethodS.f k l0 l1 = some r) :
  Calls Try.prog 27 #[.slice A0 l0.length c0, .slice A1 l1.length c1] w fun e w' => e = .returned (.bool r) ∧ Below w.heap.size w w' := by
 have hu46 := Try.underlying46
 have HR0 := Aside0.mk hr0
 have HC0 := Aside0.mk hc0
 clear hr0 hc0
 have HR1 := Aside0.mk hr1
 have HC1 := Aside0.mk hc1
 clear hr1 hc1
 have HB := Aside0.mk (Below.refl w.heap.size w)
 have H : (if (l0.length : Int) = (l1.length : Int) then (laws_eqMethodS.l0 k l0 l1 0) else (some false)) = some r := h
 clear h
 by_cases c3 : (l0.length : Int) = (l1.length : Int)
 ·rw [if_pos c3] at H
  have c3b0 := beq_iff_eq.mpr c3
  have c3b1 := bne_eq_false_iff_eq.mpr c3
  have c3b2 : (l0.length == l1.length) = true := by first | simpa using c3 | (simp at c3 ⊢; omega)
  clear c3
  have H' := Aside0.mk H
  clear H
  go_enter Try.func27, Try.ntmps27
  go_wp2
  go_loopg [5] k (fun kq v5 w' => ∃ (x5_1 : Int), v5 = .int .i64 x5_1 ∧ Aside0 (laws_eqMethodS.l0 kq l0 l1 x5_1 = some r) ∧ Aside0 (kq ≤ k) ∧ Aside0 (Below w.heap.size w w'))
  case atStart => exact ⟨(0), (by first | rfl | (simp; done) | (simp [*]; done)), H', ⟨Nat.le_refl _⟩, ⟨bl⟩⟩
  case round =>
   clear H'
   obtain ⟨x5_1, rfl, HA, HK1, HB⟩ := hrel
   cases gk with
   | zero => exact absurd HA.out (by simp [laws_eqMethodS.l0])
   | succ k1 =>
    have H := HA.out
    clear HA
    simp only [laws_eqMethodS.l0] at H
    by_cases c4 : x5_1 < (l0.length : Int)
    ·rw [if_pos c4] at H
     have c4b0 : decide (x5_1 < (l0.length : Int)) = true := decide_eq_true c4
     clear c4
     by_cases c5 : 0 ≤ x5_1
     ·rw [if_pos c5] at H
      have c5b0 : decide (0 ≤ x5_1) = true := decide_eq_true c5
      clear c5
      by_cases c6 : x5_1 < (l1.length : Int)
      ·rw [if_pos c6] at H
       have c6b0 : decide (x5_1 < (l1.length : Int)) = true := decide_eq_true c6
       clear c6
       obtain ⟨t445, A7, H⟩ := ob H
       by_cases c8 : t445 = true
       ·subst c8
        replace H := it H
        have H' := Aside0.mk H
        clear H
        try go_wp2
        replace HB := Aside0.mk (below_drew1 HB.out)
        have p443 : 0 ≤ (x5_1 : Int) := od
        have q443 : x5_1 < (l0.length : Int) := od
        obtain ⟨ad443, A443_2, c443_2, A443_5, c443_5, A443_6, c443_6, A443_7, c443_7, e443, hx443_0, hx443_1, hx443_2, hx443_3, hx443_4, hx443_5, hx443_6, hx443_7, hl443_2, hi443_2, hl443_5, hi443_5, hl443_6, hi443_6, hl443_7, hi443_7⟩ := at_T46 HR0.out x5_1 p443 q443
        have hw443_7 := hx443_7
        have hw443_6 := hx443_6
        have hw443_5 := hx443_5
        have hw443_4 := hx443_4
        have hw443_3 := hx443_3
        have hw443_2 := hx443_2
        have hw443_1 := hx443_1
        have hw443_0 := hx443_0
        cases e443
        obtain ⟨hx443_0,hx443_1,hx443_2,hx443_3,hx443_4,hx443_5,hx443_6,hx443_7⟩ := hc8 HB hx443_0 hx443_1 hx443_2 hx443_3 hx443_4 hx443_5 hx443_6 hx443_7
        have HR443_2 := Aside0.mk hi443_2
        have HC443_2 := Aside0.mk hl443_2
        clear hi443_2 hl443_2
        have HR443_5 := Aside0.mk hi443_5
        have HC443_5 := Aside0.mk hl443_5
        clear hi443_5 hl443_5
        have HR443_6 := Aside0.mk hi443_6
        have HC443_6 := Aside0.mk hl443_6
        clear hi443_6 hl443_6
        have HR443_7 := Aside0.mk hi443_7
        have HC443_7 := Aside0.mk hl443_7
        clear hi443_7 hl443_7
        replace p443 := eq_true p443
        replace q443 := eq_true q443
        have p444 : 0 ≤ (x5_1 : Int) := od
        have q444 : x5_1 < (l1.length : Int) := od
        obtain ⟨ad444, A444_2, c444_2, A444_5, c444_5, A444_6, c444_6, A444_7, c444_7, e444, hx444_0, hx444_1, hx444_2, hx444_3, hx444_4, hx444_5, hx444_6, hx444_7, hl444_2, hi444_2, hl444_5, hi444_5, hl444_6, hi444_6, hl444_7, hi444_7⟩ := at_T46 HR1.out x5_1 p444 q444
        have hw444_7 := hx444_7
        have hw444_6 := hx444_6
        have hw444_5 := hx444_5
        have hw444_4 := hx444_4
        have hw444_3 := hx444_3
        have hw444_2 := hx444_2
        have hw444_1 := hx444_1
        have hw444_0 := hx444_0
        cases e444
        obtain ⟨hx444_0,hx444_1,hx444_2,hx444_3,hx444_4,hx444_5,hx444_6,hx444_7⟩ := hc8 HB hx444_0 hx444_1 hx444_2 hx444_3 hx444_4 hx444_5 hx444_6 hx444_7
        have HR444_2 := Aside0.mk hi444_2
        have HC444_2 := Aside0.mk hl444_2
        clear hi444_2 hl444_2
        have HR444_5 := Aside0.mk hi444_5
        have HC444_5 := Aside0.mk hl444_5
        clear hi444_5 hl444_5
        have HR444_6 := Aside0.mk hi444_6
        have HC444_6 := Aside0.mk hl444_6
        clear hi444_6 hl444_6
        have HR444_7 := Aside0.mk hi444_7
        have HC444_7 := Aside0.mk hl444_7
        clear hi444_7 hl444_7
        replace p444 := eq_true p444
        replace q444 := eq_true q444
        refine start_ (n := 10) (S := fun w' => w'.cell? (ad443.add ((x5_1).toNat * 8)) = some (.int .i64 ((rd_T46 l0 x5_1).f0)) ∧ w'.cell? ⟨(ad443.add ((x5_1).toNat * 8)).block, (ad443.add ((x5_1).toNat * 8)).off + 1, none⟩ = some (.int .i64 ((rd_T46 l0 x5_1).f1)) ∧ w'.cell? ⟨(ad443.add ((x5_1).toNat * 8)).block, (ad443.add ((x5_1).toNat * 8)).off + 2, none⟩ = some (.slice A443_2 ((rd_T46 l0 x5_1).f2).length c443_2) ∧ w'.cell? ⟨(ad443.add ((x5_1).toNat * 8)).block, (ad443.add ((x5_1).toNat * 8)).off + 3, none⟩ = some (.int .i64 ((rd_T46 l0 x5_1).f3)) ∧ w'.cell? ⟨(ad443.add ((x5_1).toNat * 8)).block, (ad443.add ((x5_1).toNat * 8)).off + 4, none⟩ = some (.int .i64 ((rd_T46 l0 x5_1).f4)) ∧ w'.cell? ⟨(ad443.add ((x5_1).toNat * 8)).block, (ad443.add ((x5_1).toNat * 8)).off + 5, none⟩ = some (.slice A443_5 ((rd_T46 l0 x5_1).f5).length c443_5) ∧ w'.cell? ⟨(ad443.add ((x5_1).toNat * 8)).block, (ad443.add ((x5_1).toNat * 8)).off + 6, none⟩ = some (.slice A443_6 ((rd_T46 l0 x5_1).f6).length c443_6) ∧ w'.cell? ⟨(ad443.add ((x5_1).toNat * 8)).block, (ad443.add ((x5_1).toNat * 8)).off + 7, none⟩ = some (.slice A443_7 ((rd_T46 l0 x5_1).f7).length c443_7) ∧ w'.cell? (ad444.add ((x5_1).toNat * 8)) = some (.int .i64 ((rd_T46 l1 x5_1).f0)) ∧ w'.cell? ⟨(ad444.add ((x5_1).toNat * 8)).block, (ad444.add ((x5_1).toNat * 8)).off + 1, none⟩ = some (.int .i64 ((rd_T46 l1 x5_1).f1)) ∧ w'.cell? ⟨(ad444.add ((x5_1).toNat * 8)).block, (ad444.add ((x5_1).toNat * 8)).off + 2, none⟩ = some (.slice A444_2 ((rd_T46 l1 x5_1).f2).length c444_2) ∧ w'.cell? ⟨(ad444.add ((x5_1).toNat * 8)).block, (ad444.add ((x5_1).toNat * 8)).off + 3, none⟩ = some (.int .i64 ((rd_T46 l1 x5_1).f3)) ∧ w'.cell? ⟨(ad444.add ((x5_1).toNat * 8)).block, (ad444.add ((x5_1).toNat * 8)).off + 4, none⟩ = some (.int .i64 ((rd_T46 l1 x5_1).f4)) ∧ w'.cell? ⟨(ad444.add ((x5_1).toNat * 8)).block, (ad444.add ((x5_1).toNat * 8)).off + 5, none⟩ = some (.slice A444_5 ((rd_T46 l1 x5_1).f5).length c444_5) ∧ w'.cell? ⟨(ad444.add ((x5_1).toNat * 8)).block, (ad444.add ((x5_1).toNat * 8)).off + 6, none⟩ = some (.slice A444_6 ((rd_T46 l1 x5_1).f6).length c444_6) ∧ w'.cell? ⟨(ad444.add ((x5_1).toNat * 8)).block, (ad444.add ((x5_1).toNat * 8)).off + 7, none⟩ = some (.slice A444_7 ((rd_T46 l1 x5_1).f7).length c444_7)) (ds := []) #[false, false, false, false, false, false, false, false, false, false] (by kernel_rfl) rfl rfl ⟨((HB.out.cell (World.block_lt_of_cell? w _ hw443_0)).trans hw443_0), ((HB.out.cell (World.block_lt_of_cell? w _ hw443_1)).trans hw443_1), ((HB.out.cell (World.block_lt_of_cell? w _ hw443_2)).trans hw443_2), ((HB.out.cell (World.block_lt_of_cell? w _ hw443_3)).trans hw443_3), ((HB.out.cell (World.block_lt_of_cell? w _ hw443_4)).trans hw443_4), ((HB.out.cell (World.block_lt_of_cell? w _ hw443_5)).trans hw443_5), ((HB.out.cell (World.block_lt_of_cell? w _ hw443_6)).trans hw443_6), ((HB.out.cell (World.block_lt_of_cell? w _ hw443_7)).trans hw443_7), ((HB.out.cell (World.block_lt_of_cell? w _ hw444_0)).trans hw444_0), ((HB.out.cell (World.block_lt_of_cell? w _ hw444_1)).trans hw444_1), ((HB.out.cell (World.block_lt_of_cell? w _ hw444_2)).trans hw444_2), ((HB.out.cell (World.block_lt_of_cell? w _ hw444_3)).trans hw444_3), ((HB.out.cell (World.block_lt_of_cell? w _ hw444_4)).trans hw444_4), ((HB.out.cell (World.block_lt_of_cell? w _ hw444_5)).trans hw444_5), ((HB.out.cell (World.block_lt_of_cell? w _ hw444_6)).trans hw444_6), ((HB.out.cell (World.block_lt_of_cell? w _ hw444_7)).trans hw444_7)⟩ (fun hHeld => ?_); refine with_tabW laws_eqMethodS.tab6 laws_eqMethodS.bits6 (fun HT_ HW_ => ?_)
        generalize wr.drew = w9 at HB HR443_2 HR443_5 HR443_6 HR443_7 HR444_2 HR444_5 HR444_6 HR444_7 hx443_0 hx443_1 hx443_2 hx443_3 hx443_4 hx443_5 hx443_6 hx443_7 hx444_0 hx444_1 hx444_2 hx444_3 hx444_4 hx444_5 hx444_6 hx444_7 hHeld ⊢
        refine pu 0 17 #[true, false, false, false, false, false, false, false, false, false] HT_ rfl rfl ?_
        refine pu 1 18 #[true, true, false, false, false, false, false, false, false, false] HT_ rfl rfl ?_
        refine pu 2 19 #[true, true, true, false, false, false, false, false, false, false] HT_ rfl rfl ?_
        refine pu 4 21 #[true, true, true, false, true, false, false, false, false, false] HT_ rfl rfl ?_
        refine pu 5 22 #[true, true, true, false, true, true, false, false, false, false] HT_ rfl rfl ?_
        refine pu 6 23 #[true, true, true, false, true, true, true, false, false, false] HT_ rfl rfl ?_
        refine ta 3 20 #[true, true, true, true, true, true, true, false, false, false] HT_ HW_ hHeld rfl rfl ?_
        refine ta 7 24 #[true, true, true, true, true, true, true, true, false, false] HT_ HW_ hHeld rfl rfl ?_
        refine one_ (i := 8) (N := some 25) #[true, true, true, true, true, true, true, true, true, false] rfl rfl (one_of HT_.out (by kernel_rfl)) (by decide) (fun K hK => ?_)
        refine gs Try.func49 #[.agg #[.int .i64 ((rd_T46 l0 x5_1).f0), .int .i64 ((rd_T46 l0 x5_1).f1), .slice A443_2 ((rd_T46 l0 x5_1).f2).length c443_2, .int .i64 ((rd_T46 l0 x5_1).f3), .int .i64 ((rd_T46 l0 x5_1).f4), .slice A443_5 ((rd_T46 l0 x5_1).f5).length c443_5, .slice A443_6 ((rd_T46 l0 x5_1).f6).length c443_6, .slice A443_7 ((rd_T46 l0 x5_1).f7).length c443_7], .agg #[.int .i64 ((rd_T46 l1 x5_1).f0), .int .i64 ((rd_T46 l1 x5_1).f1), .slice A444_2 ((rd_T46 l1 x5_1).f2).length c444_2, .int .i64 ((rd_T46 l1 x5_1).f3), .int .i64 ((rd_T46 l1 x5_1).f4), .slice A444_5 ((rd_T46 l1 x5_1).f5).length c444_5, .slice A444_6 ((rd_T46 l1 x5_1).f6).length c444_6, .slice A444_7 ((rd_T46 l1 x5_1).f7).length c444_7]] rfl rfl ?_
        with_reducible refine (laws_eqMethod.calls k1 ((rd_T46 l0 x5_1).f0) ((rd_T46 l0 x5_1).f1) _ _ ((rd_T46 l0 x5_1).f2) ((rd_T46 l0 x5_1).f3) ((rd_T46 l0 x5_1).f4) _ _ ((rd_T46 l0 x5_1).f5) _ _ ((rd_T46 l0 x5_1).f6) _ _ ((rd_T46 l0 x5_1).f7) ((rd_T46 l1 x5_1).f0) ((rd_T46 l1 x5_1).f1) _ _ ((rd_T46 l1 x5_1).f2) ((rd_T46 l1 x5_1).f3) ((rd_T46 l1 x5_1).f4) _ _ ((rd_T46 l1 x5_1).f5) _ _ ((rd_T46 l1 x5_1).f6) _ _ ((rd_T46 l1 x5_1).f7) true _ ?side1 ?side2 ?side3 ?side4 ?side5 ?side6 ?side7 ?side8 ?side9 ?side10 ?side11 ?side12 ?side13 ?side14 ?side15 ?side16 A7.out).mono ?_
        (case side1 => exact cb HR443_2.out)
        (case side2 => exact HC443_2.out)
        (case side3 => exact cb HR443_5.out)
        (case side4 => exact HC443_5.out)
        (case side5 => exact cb HR443_6.out)
        (case side6 => exact HC443_6.out)
        (case side7 => exact cb HR443_7.out)
        (case side8 => exact HC443_7.out)
        (case side9 => exact cb HR444_2.out)
        (case side10 => exact HC444_2.out)
        (case side11 => exact cb HR444_5.out)
        (case side12 => exact HC444_5.out)
        (case side13 => exact cb HR444_6.out)
        (case side14 => exact HC444_6.out)
        (case side15 => exact cb HR444_7.out)
        (case side16 => exact HC444_7.out)
        rintro e w10 ⟨rfl, hb⟩
        refine ⟨_, rfl, ?_⟩
        replace HB := hs HB hb
        (try clear hb)
        (try clear hb2)
        (try clear hk)
        (try clear hi)
        refine hK.out _ _ ⟨((HB.out.cell (World.block_lt_of_cell? w _ hw443_0)).trans hw443_0), ((HB.out.cell (World.block_lt_of_cell? w _ hw443_1)).trans hw443_1), ((HB.out.cell (World.block_lt_of_cell? w _ hw443_2)).trans hw443_2), ((HB.out.cell (World.block_lt_of_cell? w _ hw443_3)).trans hw443_3), ((HB.out.cell (World.block_lt_of_cell? w _ hw443_4)).trans hw443_4), ((HB.out.cell (World.block_lt_of_cell? w _ hw443_5)).trans hw443_5), ((HB.out.cell (World.block_lt_of_cell? w _ hw443_6)).trans hw443_6), ((HB.out.cell (World.block_lt_of_cell? w _ hw443_7)).trans hw443_7), ((HB.out.cell (World.block_lt_of_cell? w _ hw444_0)).trans hw444_0), ((HB.out.cell (World.block_lt_of_cell? w _ hw444_1)).trans hw444_1), ((HB.out.cell (World.block_lt_of_cell? w _ hw444_2)).trans hw444_2), ((HB.out.cell (World.block_lt_of_cell? w _ hw444_3)).trans hw444_3), ((HB.out.cell (World.block_lt_of_cell? w _ hw444_4)).trans hw444_4), ((HB.out.cell (World.block_lt_of_cell? w _ hw444_5)).trans hw444_5), ((HB.out.cell (World.block_lt_of_cell? w _ hw444_6)).trans hw444_6), ((HB.out.cell (World.block_lt_of_cell? w _ hw444_7)).trans hw444_7)⟩ (fun hHeld => ?_)
        clear hK K
        refine no 25 ?_
        refine pu 9 26 #[true, true, true, true, true, true, true, true, true, true] HT_ rfl rfl ?_
        refine done_ (done_of HT_.out (by kernel_rfl)) ?_
        try go_wp2
        go_roundg k1
        case measure => have := HK1.out; omega
        case rel => exact ⟨(wrap64 (x5_1 + 1)), (by first | rfl | (simp; done) | (simp [*]; done)), H', ⟨by have := HK1.out; omega⟩, ⟨bl⟩⟩
       ·replace c8 := Bool.eq_false_iff.mpr c8
        subst c8
        replace H := ie H
        obtain rfl := Option.some.inj H; clear H
        try go_wp2
        replace HB := Aside0.mk (below_drew1 HB.out)
        have p443 : 0 ≤ (x5_1 : Int) := od
        have q443 : x5_1 < (l0.length : Int) := od
        obtain ⟨ad443, A443_2, c443_2, A443_5, c443_5, A443_6, c443_6, A443_7, c443_7, e443, hx443_0, hx443_1, hx443_2, hx443_3, hx443_4, hx443_5, hx443_6, hx443_7, hl443_2, hi443_2, hl443_5, hi443_5, hl443_6, hi443_6, hl443_7, hi443_7⟩ := at_T46 HR0.out x5_1 p443 q443
        have hw443_7 := hx443_7
        have hw443_6 := hx443_6
        have hw443_5 := hx443_5
        have hw443_4 := hx443_4
        have hw443_3 := hx443_3
        have hw443_2 := hx443_2
        have hw443_1 := hx443_1
        have hw443_0 := hx443_0
        cases e443
        obtain ⟨hx443_0,hx443_1,hx443_2,hx443_3,hx443_4,hx443_5,hx443_6,hx443_7⟩ := hc8 HB hx443_0 hx443_1 hx443_2 hx443_3 hx443_4 hx443_5 hx443_6 hx443_7
        have HR443_2 := Aside0.mk hi443_2
        have HC443_2 := Aside0.mk hl443_2
        clear hi443_2 hl443_2
        have HR443_5 := Aside0.mk hi443_5
        have HC443_5 := Aside0.mk hl443_5
        clear hi443_5 hl443_5
        have HR443_6 := Aside0.mk hi443_6
        have HC443_6 := Aside0.mk hl443_6
        clear hi443_6 hl443_6
        have HR443_7 := Aside0.mk hi443_7
        have HC443_7 := Aside0.mk hl443_7
        clear hi443_7 hl443_7
        replace p443 := eq_true p443
        replace q443 := eq_true q443
        have p444 : 0 ≤ (x5_1 : Int) := od
        have q444 : x5_1 < (l1.length : Int) := od
        obtain ⟨ad444, A444_2, c444_2, A444_5, c444_5, A444_6, c444_6, A444_7, c444_7, e444, hx444_0, hx444_1, hx444_2, hx444_3, hx444_4, hx444_5, hx444_6, hx444_7, hl444_2, hi444_2, hl444_5, hi444_5, hl444_6, hi444_6, hl444_7, hi444_7⟩ := at_T46 HR1.out x5_1 p444 q444
        have hw444_7 := hx444_7
        have hw444_6 := hx444_6
        have hw444_5 := hx444_5
        have hw444_4 := hx444_4
        have hw444_3 := hx444_3
        have hw444_2 := hx444_2
        have hw444_1 := hx444_1
        have hw444_0 := hx444_0
        cases e444
        obtain ⟨hx444_0,hx444_1,hx444_2,hx444_3,hx444_4,hx444_5,hx444_6,hx444_7⟩ := hc8 HB hx444_0 hx444_1 hx444_2 hx444_3 hx444_4 hx444_5 hx444_6 hx444_7
        have HR444_2 := Aside0.mk hi444_2
        have HC444_2 := Aside0.mk hl444_2
        clear hi444_2 hl444_2
        have HR444_5 := Aside0.mk hi444_5
        have HC444_5 := Aside0.mk hl444_5
        clear hi444_5 hl444_5
        have HR444_6 := Aside0.mk hi444_6
        have HC444_6 := Aside0.mk hl444_6
        clear hi444_6 hl444_6
        have HR444_7 := Aside0.mk hi444_7
        have HC444_7 := Aside0.mk hl444_7
        clear hi444_7 hl444_7
        replace p444 := eq_true p444
        replace q444 := eq_true q444
        refine start_ (n := 10) (S := fun w' => w'.cell? (ad443.add ((x5_1).toNat * 8)) = some (.int .i64 ((rd_T46 l0 x5_1).f0)) ∧ w'.cell? ⟨(ad443.add ((x5_1).toNat * 8)).block, (ad443.add ((x5_1).toNat * 8)).off + 1, none⟩ = some (.int .i64 ((rd_T46 l0 x5_1).f1)) ∧ w'.cell? ⟨(ad443.add ((x5_1).toNat * 8)).block, (ad443.add ((x5_1).toNat * 8)).off + 2, none⟩ = some (.slice A443_2 ((rd_T46 l0 x5_1).f2).length c443_2) ∧ w'.cell? ⟨(ad443.add ((x5_1).toNat * 8)).block, (ad443.add ((x5_1).toNat * 8)).off + 3, none⟩ = some (.int .i64 ((rd_T46 l0 x5_1).f3)) ∧ w'.cell? ⟨(ad443.add ((x5_1).toNat * 8)).block, (ad443.add ((x5_1).toNat * 8)).off + 4, none⟩ = some (.int .i64 ((rd_T46 l0 x5_1).f4)) ∧ w'.cell? ⟨(ad443.add ((x5_1).toNat * 8)).block, (ad443.add ((x5_1).toNat * 8)).off + 5, none⟩ = some (.slice A443_5 ((rd_T46 l0 x5_1).f5).length c443_5) ∧ w'.cell? ⟨(ad443.add ((x5_1).toNat * 8)).block, (ad443.add ((x5_1).toNat * 8)).off + 6, none⟩ = some (.slice A443_6 ((rd_T46 l0 x5_1).f6).length c443_6) ∧ w'.cell? ⟨(ad443.add ((x5_1).toNat * 8)).block, (ad443.add ((x5_1).toNat * 8)).off + 7, none⟩ = some (.slice A443_7 ((rd_T46 l0 x5_1).f7).length c443_7) ∧ w'.cell? (ad444.add ((x5_1).toNat * 8)) = some (.int .i64 ((rd_T46 l1 x5_1).f0)) ∧ w'.cell? ⟨(ad444.add ((x5_1).toNat * 8)).block, (ad444.add ((x5_1).toNat * 8)).off + 1, none⟩ = some (.int .i64 ((rd_T46 l1 x5_1).f1)) ∧ w'.cell? ⟨(ad444.add ((x5_1).toNat * 8)).block, (ad444.add ((x5_1).toNat * 8)).off + 2, none⟩ = some (.slice A444_2 ((rd_T46 l1 x5_1).f2).length c444_2) ∧ w'.cell? ⟨(ad444.add ((x5_1).toNat * 8)).block, (ad444.add ((x5_1).toNat * 8)).off + 3, none⟩ = some (.int .i64 ((rd_T46 l1 x5_1).f3)) ∧ w'.cell? ⟨(ad444.add ((x5_1).toNat * 8)).block, (ad444.add ((x5_1).toNat * 8)).off + 4, none⟩ = some (.int .i64 ((rd_T46 l1 x5_1).f4)) ∧ w'.cell? ⟨(ad444.add ((x5_1).toNat * 8)).block, (ad444.add ((x5_1).toNat * 8)).off + 5, none⟩ = some (.slice A444_5 ((rd_T46 l1 x5_1).f5).length c444_5) ∧ w'.cell? ⟨(ad444.add ((x5_1).toNat * 8)).block, (ad444.add ((x5_1).toNat * 8)).off + 6, none⟩ = some (.slice A444_6 ((rd_T46 l1 x5_1).f6).length c444_6) ∧ w'.cell? ⟨(ad444.add ((x5_1).toNat * 8)).block, (ad444.add ((x5_1).toNat * 8)).off + 7, none⟩ = some (.slice A444_7 ((rd_T46 l1 x5_1).f7).length c444_7)) (ds := []) #[false, false, false, false, false, false, false, false, false, false] (by kernel_rfl) rfl rfl ⟨((HB.out.cell (World.block_lt_of_cell? w _ hw443_0)).trans hw443_0), ((HB.out.cell (World.block_lt_of_cell? w _ hw443_1)).trans hw443_1), ((HB.out.cell (World.block_lt_of_cell? w _ hw443_2)).trans hw443_2), ((HB.out.cell (World.block_lt_of_cell? w _ hw443_3)).trans hw443_3), ((HB.out.cell (World.block_lt_of_cell? w _ hw443_4)).trans hw443_4), ((HB.out.cell (World.block_lt_of_cell? w _ hw443_5)).trans hw443_5), ((HB.out.cell (World.block_lt_of_cell? w _ hw443_6)).trans hw443_6), ((HB.out.cell (World.block_lt_of_cell? w _ hw443_7)).trans hw443_7), ((HB.out.cell (World.block_lt_of_cell? w _ hw444_0)).trans hw444_0), ((HB.out.cell (World.block_lt_of_cell? w _ hw444_1)).trans hw444_1), ((HB.out.cell (World.block_lt_of_cell? w _ hw444_2)).trans hw444_2), ((HB.out.cell (World.block_lt_of_cell? w _ hw444_3)).trans hw444_3), ((HB.out.cell (World.block_lt_of_cell? w _ hw444_4)).trans hw444_4), ((HB.out.cell (World.block_lt_of_cell? w _ hw444_5)).trans hw444_5), ((HB.out.cell (World.block_lt_of_cell? w _ hw444_6)).trans hw444_6), ((HB.out.cell (World.block_lt_of_cell? w _ hw444_7)).trans hw444_7)⟩ (fun hHeld => ?_); refine with_tabW laws_eqMethodS.tab6 laws_eqMethodS.bits6 (fun HT_ HW_ => ?_)
        generalize wr.drew = w11 at HB HR443_2 HR443_5 HR443_6 HR443_7 HR444_2 HR444_5 HR444_6 HR444_7 hx443_0 hx443_1 hx443_2 hx443_3 hx443_4 hx443_5 hx443_6 hx443_7 hx444_0 hx444_1 hx444_2 hx444_3 hx444_4 hx444_5 hx444_6 hx444_7 hHeld ⊢
        refine pu 0 17 #[true, false, false, false, false, false, false, false, false, false] HT_ rfl rfl ?_
        refine pu 1 18 #[true, true, false, false, false, false, false, false, false, false] HT_ rfl rfl ?_
        refine pu 2 19 #[true, true, true, false, false, false, false, false, false, false] HT_ rfl rfl ?_
        refine pu 4 21 #[true, true, true, false, true, false, false, false, false, false] HT_ rfl rfl ?_
        refine pu 5 22 #[true, true, true, false, true, true, false, false, false, false] HT_ rfl rfl ?_
        refine pu 6 23 #[true, true, true, false, true, true, true, false, false, false] HT_ rfl rfl ?_
        refine ta 3 20 #[true, true, true, true, true, true, true, false, false, false] HT_ HW_ hHeld rfl rfl ?_
        refine ta 7 24 #[true, true, true, true, true, true, true, true, false, false] HT_ HW_ hHeld rfl rfl ?_
        refine one_ (i := 8) (N := some 25) #[true, true, true, true, true, true, true, true, true, false] rfl rfl (one_of HT_.out (by kernel_rfl)) (by decide) (fun K hK => ?_)
        refine gs Try.func49 #[.agg #[.int .i64 ((rd_T46 l0 x5_1).f0), .int .i64 ((rd_T46 l0 x5_1).f1), .slice A443_2 ((rd_T46 l0 x5_1).f2).length c443_2, .int .i64 ((rd_T46 l0 x5_1).f3), .int .i64 ((rd_T46 l0 x5_1).f4), .slice A443_5 ((rd_T46 l0 x5_1).f5).length c443_5, .slice A443_6 ((rd_T46 l0 x5_1).f6).length c443_6, .slice A443_7 ((rd_T46 l0 x5_1).f7).length c443_7], .agg #[.int .i64 ((rd_T46 l1 x5_1).f0), .int .i64 ((rd_T46 l1 x5_1).f1), .slice A444_2 ((rd_T46 l1 x5_1).f2).length c444_2, .int .i64 ((rd_T46 l1 x5_1).f3), .int .i64 ((rd_T46 l1 x5_1).f4), .slice A444_5 ((rd_T46 l1 x5_1).f5).length c444_5, .slice A444_6 ((rd_T46 l1 x5_1).f6).length c444_6, .slice A444_7 ((rd_T46 l1 x5_1).f7).length c444_7]] rfl rfl ?_
        with_reducible refine (laws_eqMethod.calls k1 ((rd_T46 l0 x5_1).f0) ((rd_T46 l0 x5_1).f1) _ _ ((rd_T46 l0 x5_1).f2) ((rd_T46 l0 x5_1).f3) ((rd_T46 l0 x5_1).f4) _ _ ((rd_T46 l0 x5_1).f5) _ _ ((rd_T46 l0 x5_1).f6) _ _ ((rd_T46 l0 x5_1).f7) ((rd_T46 l1 x5_1).f0) ((rd_T46 l1 x5_1).f1) _ _ ((rd_T46 l1 x5_1).f2) ((rd_T46 l1 x5_1).f3) ((rd_T46 l1 x5_1).f4) _ _ ((rd_T46 l1 x5_1).f5) _ _ ((rd_T46 l1 x5_1).f6) _ _ ((rd_T46 l1 x5_1).f7) false _ ?side1 ?side2 ?side3 ?side4 ?side5 ?side6 ?side7 ?side8 ?side9 ?side10 ?side11 ?side12 ?side13 ?side14 ?side15 ?side16 A7.out).mono ?_
        (case side1 => exact cb HR443_2.out)
        (case side2 => exact HC443_2.out)
        (case side3 => exact cb HR443_5.out)
        (case side4 => exact HC443_5.out)
        (case side5 => exact cb HR443_6.out)
        (case side6 => exact HC443_6.out)
        (case side7 => exact cb HR443_7.out)
        (case side8 => exact HC443_7.out)
        (case side9 => exact cb HR444_2.out)
        (case side10 => exact HC444_2.out)
        (case side11 => exact cb HR444_5.out)
        (case side12 => exact HC444_5.out)
        (case side13 => exact cb HR444_6.out)
        (case side14 => exact HC444_6.out)
        (case side15 => exact cb HR444_7.out)
        (case side16 => exact HC444_7.out)
        rintro e w12 ⟨rfl, hb⟩
        refine ⟨_, rfl, ?_⟩
        replace HB := hs HB hb
        (try clear hb)
        (try clear hb2)
        (try clear hk)
        (try clear hi)
        refine hK.out _ _ ⟨((HB.out.cell (World.block_lt_of_cell? w _ hw443_0)).trans hw443_0), ((HB.out.cell (World.block_lt_of_cell? w _ hw443_1)).trans hw443_1), ((HB.out.cell (World.block_lt_of_cell? w _ hw443_2)).trans hw443_2), ((HB.out.cell (World.block_lt_of_cell? w _ hw443_3)).trans hw443_3), ((HB.out.cell (World.block_lt_of_cell? w _ hw443_4)).trans hw443_4), ((HB.out.cell (World.block_lt_of_cell? w _ hw443_5)).trans hw443_5), ((HB.out.cell (World.block_lt_of_cell? w _ hw443_6)).trans hw443_6), ((HB.out.cell (World.block_lt_of_cell? w _ hw443_7)).trans hw443_7), ((HB.out.cell (World.block_lt_of_cell? w _ hw444_0)).trans hw444_0), ((HB.out.cell (World.block_lt_of_cell? w _ hw444_1)).trans hw444_1), ((HB.out.cell (World.block_lt_of_cell? w _ hw444_2)).trans hw444_2), ((HB.out.cell (World.block_lt_of_cell? w _ hw444_3)).trans hw444_3), ((HB.out.cell (World.block_lt_of_cell? w _ hw444_4)).trans hw444_4), ((HB.out.cell (World.block_lt_of_cell? w _ hw444_5)).trans hw444_5), ((HB.out.cell (World.block_lt_of_cell? w _ hw444_6)).trans hw444_6), ((HB.out.cell (World.block_lt_of_cell? w _ hw444_7)).trans hw444_7)⟩ (fun hHeld => ?_)
        clear hK K
        refine no 25 ?_
        refine pu 9 26 #[true, true, true, true, true, true, true, true, true, true] HT_ rfl rfl ?_
        refine done_ (done_of HT_.out (by kernel_rfl)) ?_
        try go_wp2
        go_ret
        exact fin
      ·rw [if_neg c6] at H
       exact absurd H (by simp)
     ·rw [if_neg c5] at H
      exact absurd H (by simp)
    ·rw [if_neg c4] at H
     have c4b0 : decide (x5_1 < (l0.length : Int)) = false := decide_eq_false c4
     clear c4
     obtain rfl := Option.some.inj H; clear H
     go_wp2
     go_ret
     exact fin
 ·rw [if_neg c3] at H
  have c3b0 := beq_eq_false_iff_ne.mpr c3
  have c3b1 := bne_iff_ne.mpr c3
  have c3b2 : (l0.length == l1.length) = false := by first | simpa using c3 | (simp at c3 ⊢; omega)
  obtain rfl := Option.some.inj H; clear H
  go_enter Try.func27, Try.ntmps27
  go_wp2
  go_ret
  exact fin
end Go.Proofs.Ytedodaifpekahaa.P

end
section

namespace Go.Proofs.Ytedodaifpekahaa.P
open Go.RowKit Go.Proofs.YtedodaifpekahaaW.PrintWords Go.Proofs.YtedodaifpekahaaW.PrintLast Go.Proofs.YtedodaifpekahaaW.PrintMore
attribute [local go_sem] max2_int min2_int max_two min_two max_three min_three max_four min_four
set_option linter.unusedVariables false
set_option linter.unusedSimpArgs false
set_option maxHeartbeats 8000000 in
set_option maxRecDepth 100000 in
theorem laws_eqUnit.calls (k : Nat) (A0_0 : Option Addr) (c0_0 : Nat) (l0_0 : List (S76)) (A0_1 : Option Addr) (c0_1 : Nat) (l0_1 : List (S46)) (A1_0 : Option Addr) (c1_0 : Nat) (l1_0 : List (S76)) (A1_1 : Option Addr) (c1_1 : Nat) (l1_1 : List (S46)) (r : Bool) (w : World) (hr0_0 : Kd.C k76 w A0_0 l0_0.length l0_0) (hc0_0 : l0_0.length ≤ c0_0) (hr0_1 : Kd.C k46 w A0_1 l0_1.length l0_1) (hc0_1 : l0_1.length ≤ c0_1) (hr1_0 : Kd.C k76 w A1_0 l1_0.length l1_0) (hc1_0 : l1_0.length ≤ c1_0) (hr1_1 : Kd.C k46 w A1_1 l1_1.length l1_1) (hc1_1 : l1_1.length ≤ c1_1) (h : laws_eqUnit.f k l0_0 l0_1 l1_0 l1_1 = some r) :
  Calls Try.prog 9 #[.agg #[.slice A0_0 l0_0.length c0_0, .slice A0_1 l0_1.length c0_1], .agg #[.slice A1_0 l1_0.length c1_0, .slice A1_1 l1_1.length c1_1]] w fun e w' => e = .returned (.bool r) ∧ Below w.heap.size w w' := by
 have hu31 := Try.underlying31
 have HR0_0 := Aside0.mk hr0_0
 have HC0_0 := Aside0.mk hc0_0
 clear hr0_0 hc0_0
 have HR0_1 := Aside0.mk hr0_1
 have HC0_1 := Aside0.mk hc0_1
 clear hr0_1 hc0_1
 have HR1_0 := Aside0.mk hr1_0
 have HC1_0 := Aside0.mk hc1_0
 clear hr1_0 hc1_0
 have HR1_1 := Aside0.mk hr1_1
 have HC1_1 := Aside0.mk hc1_1
 clear hr1_1 hc1_1
 have HB := Aside0.mk (Below.refl w.heap.size w)
 have H : ((laws_eqClassS.f k l0_0 l1_0).bind fun t448 => (if t448 = true then ((laws_eqMethodS.f k l0_1 l1_1).bind fun t449 => (if t449 = true then (some true) else (some false))) else (some false))) = some r := h
 clear h
 obtain ⟨t448, A3, H⟩ := ob H
 by_cases c4 : t448 = true
 ·subst c4
  replace H := it H
  obtain ⟨t449, A5, H⟩ := ob H
  by_cases c6 : t449 = true
  ·subst c6
   replace H := it H
   obtain rfl := Option.some.inj H; clear H
   go_enter Try.func9, Try.ntmps9
   go_wp2_with (first | ((with_reducible refine gd 2 rfl ?_); refine bx 2 #[.slice A0_0 l0_0.length c0_0, .slice A0_1 l0_1.length c0_1] 31 ?_; intro gb446 hg w7 hbox hb; have BK446 := Aside0.mk hbox; have GW446 := hz HB hg; have GE446 := hz HB hg; replace HB := hs HB hb; clear hb hbox hg) | ((with_reducible refine gd 3 rfl ?_); refine bx 3 #[.slice A1_0 l1_0.length c1_0, .slice A1_1 l1_1.length c1_1] 31 ?_; intro gb447 hg w8 hbox hb; have BK447 := Aside0.mk hbox; have GW447 := hz HB hg; have GE447 := hz HB hg; have NB446_447 := nl BK446 hg; have NB447_446 := ng BK446 hg; replace BK446 := kb BK446 hb; replace HB := hs HB hb; clear hb hbox hg; have hnb9 := NB446_447.out; have hnc9 := NB447_446.out; obtain ⟨_,_,_,_⟩ := cf2 BK446; obtain ⟨_,_,_,_⟩ := cf2 BK447) | ((with_reducible refine gc 26 rfl ?_); refine gl (some 9) Try.func26 #[.slice A0_0 l0_0.length c0_0, .slice A1_0 l1_0.length c1_0] rfl ?_; (with_reducible refine (laws_eqClassS.calls k _ _ l0_0 _ _ l1_0 true _ ?side1 ?side2 ?side3 ?side4 A3.out).mono ?_); (case side1 => exact cb HR0_0.out); (case side2 => exact HC0_0.out); (case side3 => exact cb HR1_0.out); (case side4 => exact HC1_0.out); rintro e w12 ⟨rfl, hb⟩; refine ⟨_, rfl, ?_⟩; replace BK446 := kb BK446 hb; replace BK447 := kb BK447 hb; replace HB := hs HB hb; (try clear hb); obtain ⟨_,_,_,_⟩ := cf2 BK446; obtain ⟨_,_,_,_⟩ := cf2 BK447) | ((with_reducible refine gc 27 rfl ?_); refine gl (some 15) Try.func27 #[.slice A0_1 l0_1.length c0_1, .slice A1_1 l1_1.length c1_1] rfl ?_; (with_reducible refine (laws_eqMethodS.calls k _ _ l0_1 _ _ l1_1 true _ ?side1 ?side2 ?side3 ?side4 A5.out).mono ?_); (case side1 => exact cb HR0_1.out); (case side2 => exact HC0_1.out); (case side3 => exact cb HR1_1.out); (case side4 => exact HC1_1.out); rintro e w15 ⟨rfl, hb⟩; refine ⟨_, rfl, ?_⟩; replace BK446 := kb BK446 hb; replace BK447 := kb BK447 hb; replace HB := hs HB hb; (try clear hb)))
   go_ret
   exact fin
  ·replace c6 := Bool.eq_false_iff.mpr c6
   subst c6
   replace H := ie H
   obtain rfl := Option.some.inj H; clear H
   go_enter Try.func9, Try.ntmps9
   go_wp2_with (first | ((with_reducible refine gd 2 rfl ?_); refine bx 2 #[.slice A0_0 l0_0.length c0_0, .slice A0_1 l0_1.length c0_1] 31 ?_; intro gb446 hg w16 hbox hb; have BK446 := Aside0.mk hbox; have GW446 := hz HB hg; have GE446 := hz HB hg; replace HB := hs HB hb; clear hb hbox hg) | ((with_reducible refine gd 3 rfl ?_); refine bx 3 #[.slice A1_0 l1_0.length c1_0, .slice A1_1 l1_1.length c1_1] 31 ?_; intro gb447 hg w17 hbox hb; have BK447 := Aside0.mk hbox; have GW447 := hz HB hg; have GE447 := hz HB hg; have NB446_447 := nl BK446 hg; have NB447_446 := ng BK446 hg; replace BK446 := kb BK446 hb; replace HB := hs HB hb; clear hb hbox hg; have hnb18 := NB446_447.out; have hnc18 := NB447_446.out; obtain ⟨_,_,_,_⟩ := cf2 BK446; obtain ⟨_,_,_,_⟩ := cf2 BK447) | ((with_reducible refine gc 26 rfl ?_); refine gl (some 9) Try.func26 #[.slice A0_0 l0_0.length c0_0, .slice A1_0 l1_0.length c1_0] rfl ?_; (with_reducible refine (laws_eqClassS.calls k _ _ l0_0 _ _ l1_0 true _ ?side1 ?side2 ?side3 ?side4 A3.out).mono ?_); (case side1 => exact cb HR0_0.out); (case side2 => exact HC0_0.out); (case side3 => exact cb HR1_0.out); (case side4 => exact HC1_0.out); rintro e w21 ⟨rfl, hb⟩; refine ⟨_, rfl, ?_⟩; replace BK446 := kb BK446 hb; replace BK447 := kb BK447 hb; replace HB := hs HB hb; (try clear hb); obtain ⟨_,_,_,_⟩ := cf2 BK446; obtain ⟨_,_,_,_⟩ := cf2 BK447) | ((with_reducible refine gc 27 rfl ?_); refine gl (some 15) Try.func27 #[.slice A0_1 l0_1.length c0_1, .slice A1_1 l1_1.length c1_1] rfl ?_; (with_reducible refine (laws_eqMethodS.calls k _ _ l0_1 _ _ l1_1 false _ ?side1 ?side2 ?side3 ?side4 A5.out).mono ?_); (case side1 => exact cb HR0_1.out); (case side2 => exact HC0_1.out); (case side3 => exact cb HR1_1.out); (case side4 => exact HC1_1.out); rintro e w24 ⟨rfl, hb⟩; refine ⟨_, rfl, ?_⟩; replace BK446 := kb BK446 hb; replace BK447 := kb BK447 hb; replace HB := hs HB hb; (try clear hb)))
   go_ret
   exact fin
 ·replace c4 := Bool.eq_false_iff.mpr c4
  subst c4
  replace H := ie H
  obtain rfl := Option.some.inj H; clear H
  go_enter Try.func9, Try.ntmps9
  go_wp2_with (first | ((with_reducible refine gd 2 rfl ?_); refine bx 2 #[.slice A0_0 l0_0.length c0_0, .slice A0_1 l0_1.length c0_1] 31 ?_; intro gb446 hg w25 hbox hb; have BK446 := Aside0.mk hbox; have GW446 := hz HB hg; have GE446 := hz HB hg; replace HB := hs HB hb; clear hb hbox hg) | ((with_reducible refine gd 3 rfl ?_); refine bx 3 #[.slice A1_0 l1_0.length c1_0, .slice A1_1 l1_1.length c1_1] 31 ?_; intro gb447 hg w26 hbox hb; have BK447 := Aside0.mk hbox; have GW447 := hz HB hg; have GE447 := hz HB hg; have NB446_447 := nl BK446 hg; have NB447_446 := ng BK446 hg; replace BK446 := kb BK446 hb; replace HB := hs HB hb; clear hb hbox hg; have hnb27 := NB446_447.out; have hnc27 := NB447_446.out; obtain ⟨_,_,_,_⟩ := cf2 BK446; obtain ⟨_,_,_,_⟩ := cf2 BK447) | ((with_reducible refine gc 26 rfl ?_); refine gl (some 9) Try.func26 #[.slice A0_0 l0_0.length c0_0, .slice A1_0 l1_0.length c1_0] rfl ?_; (with_reducible refine (laws_eqClassS.calls k _ _ l0_0 _ _ l1_0 false _ ?side1 ?side2 ?side3 ?side4 A3.out).mono ?_); (case side1 => exact cb HR0_0.out); (case side2 => exact HC0_0.out); (case side3 => exact cb HR1_0.out); (case side4 => exact HC1_0.out); rintro e w30 ⟨rfl, hb⟩; refine ⟨_, rfl, ?_⟩; replace BK446 := kb BK446 hb; replace BK447 := kb BK447 hb; replace HB := hs HB hb; (try clear hb)))
  go_ret
  exact fin
end Go.Proofs.Ytedodaifpekahaa.P

end
section

namespace Go.Proofs.Ytedodaifpekahaa.P
open Go.RowKit Go.Proofs.YtedodaifpekahaaW.PrintWords Go.Proofs.YtedodaifpekahaaW.PrintLast Go.Proofs.YtedodaifpekahaaW.PrintMore
attribute [local go_sem] max2_int min2_int max_two min_two max_three min_three max_four min_four
set_option linter.unusedVariables false
set_option linter.unusedSimpArgs false
set_option maxHeartbeats 8000000 in
set_option maxRecDepth 100000 in
theorem laws_FnExactUnitFind.calls (k : Nat) (A0_0 : Option Addr) (c0_0 : Nat) (l0_0 : List (S58)) (A0_1 : Option Addr) (c0_1 : Nat) (l0_1 : List (S64)) (a1 : Int) (a2 : Int) (r : Bool) (w : World) (hr0_0 : Kd.C k58 w A0_0 l0_0.length l0_0) (hc0_0 : l0_0.length ≤ c0_0) (hr0_1 : Kd.C k64 w A0_1 l0_1.length l0_1) (hc0_1 : l0_1.length ≤ c0_1) (h : laws_FnExactUnitFind.f k l0_0 l0_1 a1 a2 = some r) (hr_ : r = true) :
  Calls Try.prog 4 #[.agg #[.slice A0_0 l0_0.length c0_0, .slice A0_1 l0_1.length c0_1], .int .i64 a1, .int .i64 a2] w fun e w' => e = .returned (.bool r) ∧ Below w.heap.size w w' := by
 have hu25 := Try.underlying25
 have hu31 := Try.underlying31
 have HR0_0 := Aside0.mk hr0_0
 have HC0_0 := Aside0.mk hc0_0
 clear hr0_0 hc0_0
 have HR0_1 := Aside0.mk hr0_1
 have HC0_1 := Aside0.mk hc0_1
 clear hr0_1 hc0_1
 have HB := Aside0.mk (Below.refl w.heap.size w)
 have H : ((laws_szUnit.f k l0_0 l0_1 1048576).bind fun t491 => (if t491 < 0 then (some true) else ((laws_toUnit.f k l0_0 l0_1).bind fun bt492 => ((spec_UnitFind.f k bt492.1 bt492.2 a1 a2).bind fun t498 => ((laws_toUnit.f k l0_0 l0_1).bind fun bt499 => ((impl_UnitFind.f k bt499.1 bt499.2 a1 a2).bind fun t506 => (if t506 = t498 then ((laws_toUnit.f k l0_0 l0_1).bind fun bt507 => ((laws_eqUnit.f k bt499.1 bt499.2 bt507.1 bt507.2).bind fun t513 => (if t513 = true then (some true) else (some false)))) else (some false)))))))) = some r := h
 clear h
 obtain ⟨t491, A4, H⟩ := ob H
 by_cases c5 : t491 < 0
 ·rw [if_pos c5] at H
  have c5b0 : decide (t491 < 0) = true := decide_eq_true c5
  clear c5
  obtain rfl := Option.some.inj H; clear H
  go_enter Try.func4, Try.ntmps4
  go_wp2_with (first | ((with_reducible refine gd 3 rfl ?_); refine bx 3 #[.slice A0_0 l0_0.length c0_0, .slice A0_1 l0_1.length c0_1] 25 ?_; intro gb490 hg w6 hbox hb; have BK490 := Aside0.mk hbox; have GW490 := hz HB hg; have GE490 := hz HB hg; replace HB := hs HB hb; clear hb hbox hg; obtain ⟨_,_,_,_⟩ := cf2 BK490) | ((with_reducible refine gc 5 rfl ?_); refine gl (some 13) Try.func5 #[.agg #[.slice A0_0 l0_0.length c0_0, .slice A0_1 l0_1.length c0_1], .int .i64 1048576] rfl ?_; (with_reducible refine (laws_szUnit.calls k _ _ l0_0 _ _ l0_1 1048576 t491 _ ?side1 ?side2 ?side3 ?side4 A4.out).mono ?_); (case side1 => exact cb HR0_0.out); (case side2 => exact HC0_0.out); (case side3 => exact cb HR0_1.out); (case side4 => exact HC0_1.out); rintro e w8 ⟨rfl, hb⟩; refine ⟨_, rfl, ?_⟩; replace BK490 := kb BK490 hb; replace HB := hs HB hb; (try clear hb)))
  go_ret
  exact fin
 ·rw [if_neg c5] at H
  have c5b0 : decide (t491 < 0) = false := decide_eq_false c5
  clear c5
  replace H := Option.bind_eq_some_iff.mp H
  obtain ⟨⟨t492, t495⟩, A90, H⟩ := H
  replace H : ((spec_UnitFind.f k t492 t495 a1 a2).bind fun t498 => ((laws_toUnit.f k l0_0 l0_1).bind fun bt499 => ((impl_UnitFind.f k bt499.1 bt499.2 a1 a2).bind fun t506 => (if t506 = t498 then ((laws_toUnit.f k l0_0 l0_1).bind fun bt507 => ((laws_eqUnit.f k bt499.1 bt499.2 bt507.1 bt507.2).bind fun t513 => (if t513 = true then (some true) else (some false)))) else (some false))))) = some r := H
  have A9 := Aside0.mk A90
  clear A90
  obtain ⟨t498, A10, H⟩ := ob H
  replace H := Option.bind_eq_some_iff.mp H
  obtain ⟨⟨t499, t502⟩, A110, H⟩ := H
  replace H : ((impl_UnitFind.f k t499 t502 a1 a2).bind fun t506 => (if t506 = t498 then ((laws_toUnit.f k l0_0 l0_1).bind fun bt507 => ((laws_eqUnit.f k t499 t502 bt507.1 bt507.2).bind fun t513 => (if t513 = true then (some true) else (some false)))) else (some false))) = some r := H
  have A11 := Aside0.mk A110
  clear A110
  obtain ⟨t506, A12, H⟩ := ob H
  by_cases c13 : t506 = t498
  ·rw [if_pos c13] at H
   have c13b0 := beq_iff_eq.mpr c13
   have c13b1 := bne_eq_false_iff_eq.mpr c13
   clear c13
   replace H := Option.bind_eq_some_iff.mp H
   obtain ⟨⟨t507, t510⟩, A140, H⟩ := H
   replace H : ((laws_eqUnit.f k t499 t502 t507 t510).bind fun t513 => (if t513 = true then (some true) else (some false))) = some r := H
   have A14 := Aside0.mk A140
   clear A140
   obtain ⟨t513, A15, H⟩ := ob H
   by_cases c16 : t513 = true
   ·subst c16
    replace H := it H
    obtain rfl := Option.some.inj H; clear H
    go_enter Try.func4, Try.ntmps4
    try go_wp2_with (first | ((with_reducible refine gd 3 rfl ?_); refine bx 3 #[.slice A0_0 l0_0.length c0_0, .slice A0_1 l0_1.length c0_1] 25 ?_; intro gb490 hg w17 hbox hb; have BK490 := Aside0.mk hbox; have GW490 := hz HB hg; have GE490 := hz HB hg; replace HB := hs HB hb; clear hb hbox hg; obtain ⟨_,_,_,_⟩ := cf2 BK490) | ((with_reducible refine gc 5 rfl ?_); refine gl (some 13) Try.func5 #[.agg #[.slice A0_0 l0_0.length c0_0, .slice A0_1 l0_1.length c0_1], .int .i64 1048576] rfl ?_; (with_reducible refine (laws_szUnit.calls k _ _ l0_0 _ _ l0_1 1048576 t491 _ ?side1 ?side2 ?side3 ?side4 A4.out).mono ?_); (case side1 => exact cb HR0_0.out); (case side2 => exact HC0_0.out); (case side3 => exact cb HR0_1.out); (case side4 => exact HC0_1.out); rintro e w19 ⟨rfl, hb⟩; refine ⟨_, rfl, ?_⟩; replace BK490 := kb BK490 hb; replace HB := hs HB hb; (try clear hb); obtain ⟨_,_,_,_⟩ := cf2 BK490) | ((with_reducible refine gc 7 rfl ?_); refine gl (some 17) Try.func7 #[.agg #[.slice A0_0 l0_0.length c0_0, .slice A0_1 l0_1.length c0_1]] rfl ?_; (with_reducible refine (laws_toUnit.calls k _ _ l0_0 _ _ l0_1 t492 t495 _ ?side1 ?side2 ?side3 ?side4 A9.out).mono ?_); (case side1 => exact cb HR0_0.out); (case side2 => exact HC0_0.out); (case side3 => exact cb HR0_1.out); (case side4 => exact HC0_1.out); rintro e w21 ⟨v493, v496, rfl, ho0, ho1, hb⟩; refine ⟨_, rfl, ?_⟩; have HO494 := Aside0.mk (Kd.S_lower ho0 (below_size bl)); have HO497 := Aside0.mk (Kd.R_lower ho1 (below_size bl)); replace BK490 := kb BK490 hb; replace HB := hs HB hb; (try clear hb); (try clear ho0); (try clear ho1); obtain ⟨Ao22, co22, eo22⟩ := Kd.S_slice HO494.out; subst eo22; obtain ⟨Ao23, co23, eo23⟩ := Kd.R_slice HO497.out; subst eo23) | ((with_reducible refine gc 10 rfl ?_); refine gl (some 20) Try.func10 #[.agg #[.slice Ao22 t492.length co22, .slice Ao23 t495.length co23], .int .i64 a1, .int .i64 a2] rfl ?_; (with_reducible refine (spec_UnitFind.calls k _ _ t492 _ _ t495 a1 a2 t498 _ ?side1 ?side2 ?side3 ?side4 A10.out).mono ?_); (case side1 => repeat (first | exact (Kd.S_reads' HO494.out).2.2 | (with_reducible refine Kd.C_alloc ?_ _) | (with_reducible refine Kd.C_drewN ?_ _) | (with_reducible refine Kd.C_drew ?_))); (case side2 => exact (Kd.S_reads' HO494.out).2.1); (case side3 => repeat (first | exact (Kd.R_reads' HO497.out).2.2 | (with_reducible refine Kd.C_alloc ?_ _) | (with_reducible refine Kd.C_drewN ?_ _) | (with_reducible refine Kd.C_drew ?_))); (case side4 => exact (Kd.R_reads' HO497.out).2.1); rintro e w24 ⟨rfl, hb⟩; refine ⟨_, rfl, ?_⟩; replace HO494 := Aside0.mk (Kd.S_below (by (with_reducible repeat (first | apply Kd.S_alloc | apply Kd.S_drewN | apply Kd.S_drew)); exact HO494.out) hb); replace HO497 := Aside0.mk (Kd.R_below (by (with_reducible repeat (first | apply Kd.R_alloc | apply Kd.R_drewN | apply Kd.R_drew)); exact HO497.out) hb); replace BK490 := kb BK490 hb; replace HB := hs HB hb; (try clear hb); obtain ⟨_,_,_,_⟩ := cf2 BK490) | ((with_reducible refine gc 7 rfl ?_); refine gl (some 22) Try.func7 #[.agg #[.slice A0_0 l0_0.length c0_0, .slice A0_1 l0_1.length c0_1]] rfl ?_; (with_reducible refine (laws_toUnit.calls k _ _ l0_0 _ _ l0_1 t499 t502 _ ?side1 ?side2 ?side3 ?side4 A11.out).mono ?_); (case side1 => exact cb HR0_0.out); (case side2 => exact HC0_0.out); (case side3 => exact cb HR0_1.out); (case side4 => exact HC0_1.out); rintro e w26 ⟨v500, v503, rfl, ho0, ho1, hb⟩; refine ⟨_, rfl, ?_⟩; have HO501 := Aside0.mk (Kd.S_lower (Kd.S_new' ho0 (Kd.S_lt (by (with_reducible repeat (first | apply Kd.S_alloc | apply Kd.S_drewN | apply Kd.S_drew)); exact HO494.out))) (below_size bl)); have HO504 := Aside0.mk (Kd.R_lower (Kd.R_new' ho1 (Kd.R_lt (by (with_reducible repeat (first | apply Kd.R_alloc | apply Kd.R_drewN | apply Kd.R_drew)); exact HO497.out))) (below_size bl)); replace HO494 := Aside0.mk (Kd.S_elder' (by (with_reducible repeat (first | apply Kd.S_alloc | apply Kd.S_drewN | apply Kd.S_drew)); exact HO494.out) (Kd.S_base ho0) hb); replace HO497 := Aside0.mk (Kd.R_elder' (by (with_reducible repeat (first | apply Kd.R_alloc | apply Kd.R_drewN | apply Kd.R_drew)); exact HO497.out) (Kd.R_base ho1) hb); replace BK490 := kb BK490 hb; replace HB := hs HB hb; (try clear hb); (try clear ho0); (try clear ho1)) | ((with_reducible refine gd 9 rfl ?_); refine bx 9 #[.slice none 0 0, .slice none 0 0] 31 ?_; intro gb505 hg w27 hbox hb; have BK505 := Aside0.mk hbox; have GW505 := hz HB hg; have GE505 := hz HB hg; have NB490_505 := nl BK490 hg; have NB505_490 := ng BK490 hg; replace HO494 := Aside0.mk (Kd.S_below (by (with_reducible repeat (first | apply Kd.S_alloc | apply Kd.S_drewN | apply Kd.S_drew)); exact HO494.out) hb); replace HO497 := Aside0.mk (Kd.R_below (by (with_reducible repeat (first | apply Kd.R_alloc | apply Kd.R_drewN | apply Kd.R_drew)); exact HO497.out) hb); replace HO501 := Aside0.mk (Kd.S_below (by (with_reducible repeat (first | apply Kd.S_alloc | apply Kd.S_drewN | apply Kd.S_drew)); exact HO501.out) hb); replace HO504 := Aside0.mk (Kd.R_below (by (with_reducible repeat (first | apply Kd.R_alloc | apply Kd.R_drewN | apply Kd.R_drew)); exact HO504.out) hb); replace BK490 := kb BK490 hb; replace HB := hs HB hb; clear hb hbox hg; obtain ⟨Ao28, co28, eo28⟩ := Kd.S_slice HO501.out; subst eo28; have hnb29 := NB505_490.out; have hnc29 := NB490_505.out; obtain ⟨_,_,_,_⟩ := cf2 BK505; obtain ⟨Ao31, co31, eo31⟩ := Kd.R_slice HO504.out; subst eo31) | ((with_reducible refine gc 11 rfl ?_); refine gl (some 26) Try.func11 #[.agg #[.slice Ao28 t499.length co28, .slice Ao31 t502.length co31], .int .i64 a1, .int .i64 a2] rfl ?_; (with_reducible refine (impl_UnitFind.calls k _ _ t499 _ _ t502 a1 a2 t506 _ ?side1 ?side2 ?side3 ?side4 A12.out).mono ?_); (case side1 => refine (Kd.S_reads' (e := 76) (base := w.heap.size) (ok := fun k_ => (True ∧ some k_ ≠ (.slice Ao22 t492.length co22 : Value).ownBlock)) (n := t499.length) (c := co28) ?_).2.2; exact (by (with_reducible repeat (first | apply Kd.S_alloc | apply Kd.S_drewN | apply Kd.S_drew)); exact (Kd.S_mono (Kd.S_far (p := ⟨gb505, 1, none⟩) (Kd.S_far (p := ⟨gb505, 0, none⟩) (Kd.S_types HO501.out BK505.out (by decide)) (fun _ hk => hk.2) (.slice Ao28 t499.length co28)) (fun _ hk => hk.2) (.slice Ao31 t502.length co31)) (fun _ h_ => h_.1)))); (case side2 => exact (Kd.S_reads' HO501.out).2.1); (case side3 => refine (Kd.R_reads' (e := 46) (base := w.heap.size) (ok := fun k_ => (True ∧ some k_ ≠ (.slice Ao23 t495.length co23 : Value).ownBlock)) (n := t502.length) (c := co31) ?_).2.2; exact (by (with_reducible repeat (first | apply Kd.R_alloc | apply Kd.R_drewN | apply Kd.R_drew)); exact (Kd.R_mono (Kd.R_far (p := ⟨gb505, 1, none⟩) (Kd.R_far (p := ⟨gb505, 0, none⟩) (Kd.R_types HO504.out BK505.out (by decide)) (fun _ hk => hk.2) (.slice Ao28 t499.length co28)) (fun _ hk => hk.2) (.slice Ao31 t502.length co31)) (fun _ h_ => h_.1)))); (case side4 => exact (Kd.R_reads' HO504.out).2.1); rintro e w32 ⟨rfl, hb⟩; refine ⟨_, rfl, ?_⟩; replace HO494 := Aside0.mk (Kd.S_below (by (with_reducible repeat (first | apply Kd.S_alloc | apply Kd.S_drewN | apply Kd.S_drew)); exact (Kd.S_mono (Kd.S_far (p := ⟨gb505, 1, none⟩) (Kd.S_far (p := ⟨gb505, 0, none⟩) (Kd.S_types HO494.out BK505.out (by decide)) (fun _ hk => hk.2) (.slice Ao28 t499.length co28)) (fun _ hk => hk.2) (.slice Ao31 t502.length co31)) (fun _ h_ => h_.1))) hb); replace HO497 := Aside0.mk (Kd.R_below (by (with_reducible repeat (first | apply Kd.R_alloc | apply Kd.R_drewN | apply Kd.R_drew)); exact (Kd.R_mono (Kd.R_far (p := ⟨gb505, 1, none⟩) (Kd.R_far (p := ⟨gb505, 0, none⟩) (Kd.R_types HO497.out BK505.out (by decide)) (fun _ hk => hk.2) (.slice Ao28 t499.length co28)) (fun _ hk => hk.2) (.slice Ao31 t502.length co31)) (fun _ h_ => h_.1))) hb); replace HO501 := Aside0.mk (Kd.S_below (by (with_reducible repeat (first | apply Kd.S_alloc | apply Kd.S_drewN | apply Kd.S_drew)); exact (Kd.S_mono (Kd.S_far (p := ⟨gb505, 1, none⟩) (Kd.S_far (p := ⟨gb505, 0, none⟩) (Kd.S_types HO501.out BK505.out (by decide)) (fun _ hk => hk.2) (.slice Ao28 t499.length co28)) (fun _ hk => hk.2) (.slice Ao31 t502.length co31)) (fun _ h_ => h_.1))) hb); replace HO504 := Aside0.mk (Kd.R_below (by (with_reducible repeat (first | apply Kd.R_alloc | apply Kd.R_drewN | apply Kd.R_drew)); exact (Kd.R_mono (Kd.R_far (p := ⟨gb505, 1, none⟩) (Kd.R_far (p := ⟨gb505, 0, none⟩) (Kd.R_types HO504.out BK505.out (by decide)) (fun _ hk => hk.2) (.slice Ao28 t499.length co28)) (fun _ hk => hk.2) (.slice Ao31 t502.length co31)) (fun _ h_ => h_.1))) hb); replace BK490 := kq BK490 hb; replace BK505 := kp gb505 #[.slice Ao28 t499.length co28, .slice Ao31 t502.length co31] 31 hb; replace HB := hs HB hb; (try clear hb); (try clear hk)))
    replace HO494 := Aside0.mk (Kd.S_drew HO494.out)
    replace HO497 := Aside0.mk (Kd.R_drew HO497.out)
    replace HO501 := Aside0.mk (Kd.S_drew HO501.out)
    replace HO504 := Aside0.mk (Kd.R_drew HO504.out)
    replace BK490 := Aside0.mk (blk_drew BK490.out)
    replace BK505 := Aside0.mk (blk_drew BK505.out)
    replace HB := Aside0.mk (below_drew1 HB.out)
    refine start_ (n := 5) (S := fun w' => w'.cell? ⟨gb505, 0, none⟩ = some (.slice Ao28 t499.length co28) ∧ w'.cell? ⟨gb505, 1, none⟩ = some (.slice Ao31 t502.length co31) ∧ w'.cell? ⟨gb490, 0, none⟩ = some (.slice A0_0 l0_0.length c0_0) ∧ w'.cell? ⟨gb490, 1, none⟩ = some (.slice A0_1 l0_1.length c0_1)) (ds := []) #[false, false, false, false, false] (by kernel_rfl) rfl rfl ⟨(blk_cell BK505.out 0).trans rfl, (blk_cell BK505.out 1).trans rfl, (blk_cell BK490.out 0).trans rfl, (blk_cell BK490.out 1).trans rfl⟩ (fun hHeld => ?_)
    generalize w32.drew = w33 at HO494 HO497 HO501 HO504 BK490 BK505 HB hHeld ⊢
    refine take_ (i := 0) (N := some 30) (v := ?_) (a' := ?_) #[true, false, false, false, false] rfl rfl (by kernel_rfl) (fun _ _ _ h => h) (Or.inl ⟨by rfl, ?_⟩) hHeld ?_ ?_
    rotate_left
    ·rintro w' ⟨s0, s1, s2, s3⟩
     go_simp
     with_reducible rfl
    rotate_left
    ·simp only [Act.put, List.setIfInBounds_toArray, List.set_cons_zero, List.set_cons_succ, i64_w, i32_w]
     rfl
    refine take_ (i := 1) (N := some 31) (v := ?_) (a' := ?_) #[true, true, false, false, false] rfl rfl (by kernel_rfl) (fun _ _ _ h => h) (Or.inl ⟨by rfl, ?_⟩) hHeld ?_ ?_
    rotate_left
    ·rintro w' ⟨s0, s1, s2, s3⟩
     go_simp
     with_reducible rfl
    rotate_left
    ·simp only [Act.put, List.setIfInBounds_toArray, List.set_cons_zero, List.set_cons_succ, i64_w, i32_w]
     rfl
    refine one_ (i := 2) (N := some 32) #[true, true, true, false, false] rfl rfl (by kernel_rfl) (by decide) (fun K hK => ?_)
    refine gs Try.func7 #[.agg #[.slice A0_0 l0_0.length c0_0, .slice A0_1 l0_1.length c0_1]] rfl rfl ?_
    with_reducible refine (laws_toUnit.calls k _ _ l0_0 _ _ l0_1 t507 t510 _ ?side1 ?side2 ?side3 ?side4 A14.out).mono ?_
    (case side1 => exact cb HR0_0.out)
    (case side2 => exact HC0_0.out)
    (case side3 => exact cb HR0_1.out)
    (case side4 => exact HC0_1.out)
    rintro e w34 ⟨v508, v511, rfl, ho0, ho1, hb⟩
    refine ⟨_, rfl, ?_⟩
    have HO509 := Aside0.mk (Kd.S_lower (Kd.S_new' (Kd.S_new' ho0 (Kd.S_lt (by (with_reducible repeat (first | apply Kd.S_alloc | apply Kd.S_drewN | apply Kd.S_drew)); exact HO494.out))) (Kd.S_lt (by (with_reducible repeat (first | apply Kd.S_alloc | apply Kd.S_drewN | apply Kd.S_drew)); exact HO501.out))) (below_size bl))
    have HO512 := Aside0.mk (Kd.R_lower (Kd.R_new' (Kd.R_new' ho1 (Kd.R_lt (by (with_reducible repeat (first | apply Kd.R_alloc | apply Kd.R_drewN | apply Kd.R_drew)); exact HO497.out))) (Kd.R_lt (by (with_reducible repeat (first | apply Kd.R_alloc | apply Kd.R_drewN | apply Kd.R_drew)); exact HO504.out))) (below_size bl))
    replace HO494 := Aside0.mk (Kd.S_elder' (by (with_reducible repeat (first | apply Kd.S_alloc | apply Kd.S_drewN | apply Kd.S_drew)); exact HO494.out) (Kd.S_base ho0) hb)
    replace HO497 := Aside0.mk (Kd.R_elder' (by (with_reducible repeat (first | apply Kd.R_alloc | apply Kd.R_drewN | apply Kd.R_drew)); exact HO497.out) (Kd.R_base ho1) hb)
    replace HO501 := Aside0.mk (Kd.S_elder' (by (with_reducible repeat (first | apply Kd.S_alloc | apply Kd.S_drewN | apply Kd.S_drew)); exact HO501.out) (Kd.S_base ho0) hb)
    replace HO504 := Aside0.mk (Kd.R_elder' (by (with_reducible repeat (first | apply Kd.R_alloc | apply Kd.R_drewN | apply Kd.R_drew)); exact HO504.out) (Kd.R_base ho1) hb)
    replace BK490 := kb BK490 hb
    replace BK505 := kb BK505 hb
    replace HB := hs HB hb
    (try clear hb)
    (try clear hb2)
    (try clear hk)
    (try clear hi)
    (try clear ho0)
    (try clear ho1)
    obtain ⟨Ao35, co35, eo35⟩ := Kd.S_slice HO509.out
    (first | subst eo35 | (injection eo35 with f1_ f2_ f3_; have f4_ := f1_.symm; have f5_ := f3_.symm; clear f1_ f2_ f3_; subst f4_; subst f5_))
    obtain ⟨Ao36, co36, eo36⟩ := Kd.R_slice HO512.out
    (first | subst eo36 | (injection eo36 with f1_ f2_ f3_; have f4_ := f1_.symm; have f5_ := f3_.symm; clear f1_ f2_ f3_; subst f4_; subst f5_))
    refine hK.out _ _ ⟨(blk_cell BK505.out 0).trans rfl, (blk_cell BK505.out 1).trans rfl, (blk_cell BK490.out 0).trans rfl, (blk_cell BK490.out 1).trans rfl⟩ (fun hHeld => ?_)
    clear hK K
    refine no 32 ?_
    refine one_ (i := 3) (N := some 33) #[true, true, true, true, false] rfl rfl (by kernel_rfl) (by decide) (fun K hK => ?_)
    refine gs Try.func9 #[.agg #[.slice Ao28 t499.length co28, .slice Ao31 t502.length co31], .agg #[.slice Ao35 t507.length co35, .slice Ao36 t510.length co36]] rfl rfl ?_
    with_reducible refine (laws_eqUnit.calls k _ _ t499 _ _ t502 _ _ t507 _ _ t510 true _ ?side1 ?side2 ?side3 ?side4 ?side5 ?side6 ?side7 ?side8 A15.out).mono ?_
    (case side1 => repeat (first | exact (Kd.S_reads' HO501.out).2.2 | (with_reducible refine Kd.C_alloc ?_ _) | (with_reducible refine Kd.C_drewN ?_ _) | (with_reducible refine Kd.C_drew ?_)))
    (case side2 => exact (Kd.S_reads' HO501.out).2.1)
    (case side3 => repeat (first | exact (Kd.R_reads' HO504.out).2.2 | (with_reducible refine Kd.C_alloc ?_ _) | (with_reducible refine Kd.C_drewN ?_ _) | (with_reducible refine Kd.C_drew ?_)))
    (case side4 => exact (Kd.R_reads' HO504.out).2.1)
    (case side5 => repeat (first | exact (Kd.S_reads' HO509.out).2.2 | (with_reducible refine Kd.C_alloc ?_ _) | (with_reducible refine Kd.C_drewN ?_ _) | (with_reducible refine Kd.C_drew ?_)))
    (case side6 => exact (Kd.S_reads' HO509.out).2.1)
    (case side7 => repeat (first | exact (Kd.R_reads' HO512.out).2.2 | (with_reducible refine Kd.C_alloc ?_ _) | (with_reducible refine Kd.C_drewN ?_ _) | (with_reducible refine Kd.C_drew ?_)))
    (case side8 => exact (Kd.R_reads' HO512.out).2.1)
    rintro e w37 ⟨rfl, hb⟩
    refine ⟨_, rfl, ?_⟩
    replace HO494 := Aside0.mk (Kd.S_below (by (with_reducible repeat (first | apply Kd.S_alloc | apply Kd.S_drewN | apply Kd.S_drew)); exact HO494.out) hb)
    replace HO497 := Aside0.mk (Kd.R_below (by (with_reducible repeat (first | apply Kd.R_alloc | apply Kd.R_drewN | apply Kd.R_drew)); exact HO497.out) hb)
    replace HO501 := Aside0.mk (Kd.S_below (by (with_reducible repeat (first | apply Kd.S_alloc | apply Kd.S_drewN | apply Kd.S_drew)); exact HO501.out) hb)
    replace HO504 := Aside0.mk (Kd.R_below (by (with_reducible repeat (first | apply Kd.R_alloc | apply Kd.R_drewN | apply Kd.R_drew)); exact HO504.out) hb)
    replace HO509 := Aside0.mk (Kd.S_below (by (with_reducible repeat (first | apply Kd.S_alloc | apply Kd.S_drewN | apply Kd.S_drew)); exact HO509.out) hb)
    replace HO512 := Aside0.mk (Kd.R_below (by (with_reducible repeat (first | apply Kd.R_alloc | apply Kd.R_drewN | apply Kd.R_drew)); exact HO512.out) hb)
    replace BK490 := kb BK490 hb
    replace BK505 := kb BK505 hb
    replace HB := hs HB hb
    (try clear hb)
    (try clear hb2)
    (try clear hk)
    (try clear hi)
    refine hK.out _ _ ⟨(blk_cell BK505.out 0).trans rfl, (blk_cell BK505.out 1).trans rfl, (blk_cell BK490.out 0).trans rfl, (blk_cell BK490.out 1).trans rfl⟩ (fun hHeld => ?_)
    clear hK K
    refine no 33 ?_
    refine pure_ (i := 4) (N := some 34) (v := ?_) (a' := ?_) #[true, true, true, true, true] rfl rfl (by kernel_rfl) (fun _ _ _ h => h) (Or.inl ⟨by rfl, ?_⟩) ?_ ?_
    rotate_left
    ·intro w'
     go_simp
     with_reducible rfl
    rotate_left
    ·simp only [Act.put, List.setIfInBounds_toArray, List.set_cons_zero, List.set_cons_succ, i64_w, i32_w]
     rfl
    refine done_ (by kernel_rfl) ?_
    try go_wp2
    go_ret
    exact fin
   ·replace c16 := Bool.eq_false_iff.mpr c16
    subst c16
    replace H := ie H
    obtain rfl := Option.some.inj H
    exact absurd hr_ (by decide)
  ·rw [if_neg c13] at H
   have c13b0 := beq_eq_false_iff_ne.mpr c13
   have c13b1 := bne_iff_ne.mpr c13
   obtain rfl := Option.some.inj H
   exact absurd hr_ (by decide)
end Go.Proofs.Ytedodaifpekahaa.P

end
section

namespace Go.Proofs.Ytedodaifpekahaa.Open
open Go Go.RowKit Go.ChangeShapes Go.WideShapes Go.Deep Go.Proofs.YtedodaifpekahaaW.PrintWords
set_option linter.unusedVariables false
set_option linter.unusedSectionVars false
theorem list_of {α : Type} {n : Nat} {p : Nat → α → Prop} (h : ∀ i, i < n → ∃ x, p i x) : ∃ xs : List α, xs.length = n ∧ ∀ i y, xs[i]? = some y → p i y := by
  induction n with
  | zero => exact ⟨[], rfl, fun i y hy => by simp at hy⟩
  | succ q ih =>
    obtain ⟨xs, hl, hxs⟩ := ih (fun i hi => h i (by omega))
    obtain ⟨z, hz⟩ := h q (by omega)
    refine ⟨xs ++ [z], by simp [hl], fun i y hy => ?_⟩
    by_cases hi : i < xs.length
    · rw [List.getElem?_append_left hi] at hy
      exact hxs i y hy
    · rw [List.getElem?_append_right (by omega)] at hy
      have hi2 : i = xs.length := by
        have := (List.getElem?_eq_some_iff.1 hy).1
        simp at this
        omega
      subst hi2
      simp at hy
      subst hy
      rw [hl]
      exact hz
section
variable {H : Type} {enc : TypeId × Value → H} {P : Program} {w : World} {base : Nat} {spare : Nat → Bool} {held : Bool}
def Opens {H : Type} (enc : TypeId × Value → H) (P : Program) (w : World) (base : Nat) (spare : Nat → Bool) (held : Bool) {α : Type} (t : TypeId) (d : Kd α) (wf : α → Prop) : Prop :=
  ∀ (fuel : Nat) (cs : List Value) (x : DataW H × List MemPlace), DataW.trod enc P w base spare held fuel t cs = some x → ∃ a, d.K w a cs ∧ wf a
theorem opens_int {k : IntKind} {t : TypeId} (hu : P.underlying t = some (.int k)) : Opens enc P w base spare held t (Kd.int k) (fun n => (Lit.int k n).wf = true) := by
  intro fuel cs x h
  obtain ⟨n, rfl, _, hw⟩ := DataW.trod_int hu h
  exact ⟨n, rfl, hw⟩
theorem opens_bool {t : TypeId} (hu : P.underlying t = some .bool) : Opens enc P w base spare held t Kd.bool (fun _ => True) := by
  intro fuel cs x h
  obtain ⟨b, rfl, _⟩ := DataW.trod_bool hu h
  exact ⟨b, rfl, trivial⟩
theorem cells_get {base n : Nat} {a : Addr} {cs : List Value} (h : w.cells? base a n = some cs) : cs.length = n ∧ ∀ i u, cs[i]? = some u → w.cell? (a.add i) = some u := by
  obtain ⟨hb, hl, hc⟩ := World.cells?_some h
  refine ⟨hl, fun i u hu => ?_⟩
  have hi : i < cs.length := (List.getElem?_eq_some_iff.1 hu).1
  rw [hc i (by omega), hu]
theorem opens_slice {α : Type} {d : Kd α} {wf : α → Prop} {t e : TypeId} (hu : P.underlying t = some (.slice e)) (hc : P.cellsOf e = d.sz) (ho : Opens enc P w base spare held e d wf) :
    Opens enc P w base spare held t (Kd.slice e d) (fun xs => xs.length ≤ 9223372036854775807 ∧ ∀ x ∈ xs, wf x) := by
  intro fuel cs x h
  rcases open_slice hu h with ⟨rfl, _⟩ | ⟨a, len, cap, m, n, D, Pl, rfl, _, hlc, hcm, hm, _, hel⟩
  · exact ⟨[], ⟨none, 0, rfl, Nat.le_refl 0, rfl, Nat.zero_le _, fun hp => absurd hp (Nat.lt_irrefl 0)⟩, Nat.zero_le _, fun x hx => by cases hx⟩
  · have hlm : len ≤ m := by rw [hm]; split <;> omega
    obtain ⟨xs, hxl, hxs⟩ := list_of (p := fun i y => ∃ c, w.cells? base (a.add (i * P.cellsOf e)) (P.cellsOf e) = some c ∧ d.K w y c ∧ wf y) (fun i hi => by
      obtain ⟨cs', h1, h2⟩ := hel i (by omega)
      obtain ⟨y, hy, hw⟩ := ho n cs' _ h2
      exact ⟨y, cs', h1, hy, hw⟩ : ∀ i, i < len → _)
    have hmax : len ≤ 9223372036854775807 := by unfold maxLen at hcm; omega
    subst hxl
    refine ⟨xs, ⟨some a, cap, rfl, hlc, rfl, hmax, fun _ => ⟨a, rfl, fun j p hj => ?_⟩⟩, hmax, fun y hy => ?_⟩
    · obtain ⟨c, h1, h2, _⟩ := hxs j p hj
      rw [hc] at h1
      obtain ⟨h3, h4⟩ := cells_get h1
      exact ⟨c, h3, h2, fun i u hu => by rw [← Go.Deep.add_add]; exact h4 i u hu⟩
    · obtain ⟨i, hi⟩ := List.getElem?_of_mem hy
      obtain ⟨_, _, _, h3⟩ := hxs i y hi
      exact h3
def OpensF {H : Type} (enc : TypeId × Value → H) (P : Program) (w : World) (base : Nat) (spare : Nat → Bool) (held : Bool) {β : Type} (fs : List Field) (off : Nat) (d : Kd β) (wf : β → Prop) : Prop :=
  ∀ (fuel : Nat) (cs : List Value), cs.length = off + d.sz → (∀ f ∈ fs, ∃ y, DataW.trod enc P w base spare held fuel f.type ((cs.drop f.offset).take (P.cellsOf f.type)) = some y) → ∃ b, d.K w b (cs.drop off) ∧ wf b
theorem opensF_one {α : Type} {d : Kd α} {wf : α → Prop} {f : Field} {off : Nat} (ho : f.offset = off) (hc : P.cellsOf f.type = d.sz) (h : Opens enc P w base spare held f.type d wf) : OpensF enc P w base spare held [f] off d wf := by
  intro fuel cs hl hf
  obtain ⟨y, hy⟩ := hf f (by simp)
  rw [ho, hc, List.take_of_length_le (by simp; omega)] at hy
  exact h fuel _ _ hy
theorem opensF_cons {α β : Type} {d : Kd α} {d2 : Kd β} {wf : α → Prop} {wf2 : β → Prop} {f : Field} {fs : List Field} {off off2 : Nat} (ho : f.offset = off) (hc : P.cellsOf f.type = d.sz) (h2 : off2 = off + d.sz)
    (h : Opens enc P w base spare held f.type d wf) (hr : OpensF enc P w base spare held fs off2 d2 wf2) : OpensF enc P w base spare held (f :: fs) off (Kd.pair d d2) (fun p => wf p.1 ∧ wf2 p.2) := by
  intro fuel cs hl hf
  have hl' : cs.length = off + (d.sz + d2.sz) := hl
  obtain ⟨y, hy⟩ := hf f (by simp)
  rw [ho, hc] at hy
  obtain ⟨a, ha, hwa⟩ := h fuel _ _ hy
  obtain ⟨b, hb, hwb⟩ := hr fuel cs (by omega) (fun g hg => hf g (by simp [hg]))
  refine ⟨(a, b), ⟨_, _, ?_, ha, hb⟩, hwa, hwb⟩
  rw [h2, ← List.drop_drop]
  exact (List.take_append_drop d.sz (cs.drop off)).symm
theorem opens_struct {α β : Type} {d : Kd β} {wf : β → Prop} {t : TypeId} {fs : Array Field} (hu : P.underlying t = some (.struct fs)) (hc : P.cellsOf t = d.sz) (h : OpensF enc P w base spare held fs.toList 0 d wf) (f : α → β) (g : β → α) (hfg : ∀ b, f (g b) = b) :
    Opens enc P w base spare held t (Kd.iso d f) (fun a => wf (f a)) := by
  intro fuel cs x hx
  obtain ⟨xs, n, _, _, hl, hxl, hfs⟩ := DataW.trod_struct hu hx
  obtain ⟨b, hb, hwb⟩ := h n cs (by omega) (fun q hq => by
    obtain ⟨i, hi⟩ := List.getElem?_of_mem hq
    rw [Array.getElem?_toList] at hi
    have hlt : i < xs.length := by rw [hxl]; exact (Array.getElem?_eq_some_iff.1 hi).1
    rw [hfs i q hi, List.getElem?_eq_getElem hlt]
    exact ⟨_, rfl⟩)
  exact ⟨g b, by show d.K w (f (g b)) cs; rw [hfg]; exact hb, by show wf (f (g b)); rw [hfg]; exact hwb⟩
theorem opens_arg {α : Type} {d : Kd α} {wf : α → Prop} {t : TypeId} {v : Value} {x : DataW H} {ps : List MemPlace} (h : DataW.Trod enc P w base spare held t v x ps) (ho : Opens enc P w base spare held t d wf) : ∃ a, d.K w a v.cells.toList ∧ wf a := by
  obtain ⟨fuel, hf⟩ := h
  exact ho fuel _ _ hf
end
end Go.Proofs.Ytedodaifpekahaa.Open

end
