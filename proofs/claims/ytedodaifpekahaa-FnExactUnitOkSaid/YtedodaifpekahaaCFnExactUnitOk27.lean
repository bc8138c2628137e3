/- A part of the claim FnExactUnitOk: texts of this session and texts that its program printed out of the translation, joined. -/
import Derived.Test.YtedodaifpekahaaCFnExactUnitOk21
import Derived.Test.YtedodaifpekahaaCFnExactUnitOk23
import Derived.Test.YtedodaifpekahaaCFnExactUnitOk22
import Derived.Test.YtedodaifpekahaaCFnExactUnitOk25
import Derived.Test.YtedodaifpekahaaCFnExactUnitOk26
import Derived.Test.YtedodaifpekahaaCFnExactUnitOk0
import Derived.Test.YtedodaifpekahaaCFnExactUnitOk1
import Derived.Test.YtedodaifpekahaaCFnExactUnitOk2
import Derived.Test.YtedodaifpekahaaCFnExactUnitOk3
import Derived.Test.YtedodaifpekahaaCFnExactUnitOk4
import Derived.Test.YtedodaifpekahaaCFnExactUnitOk5
import Derived.Test.YtedodaifpekahaaCFnExactUnitOk6
import Derived.Test.YtedodaifpekahaaCFnExactUnitOk7
import Derived.Test.YtedodaifpekahaaCFnExactUnitOk8
import Derived.Test.YtedodaifpekahaaCFnExactUnitOk9
import Derived.Test.YtedodaifpekahaaCFnExactUnitOk10
import Derived.Test.YtedodaifpekahaaCFnExactUnitOk11
import Derived.Test.YtedodaifpekahaaCFnExactUnitOk12
import Derived.Test.YtedodaifpekahaaCFnExactUnitOk13
import Derived.Test.YtedodaifpekahaaCFnExactUnitOk14
import Derived.Test.YtedodaifpekahaaCFnExactUnitOk15
import Derived.Test.YtedodaifpekahaaCFnExactUnitOk16
import Derived.Test.YtedodaifpekahaaCFnExactUnitOk17
import Derived.Test.YtedodaifpekahaaCFnExactUnitOk18
import Derived.Test.YtedodaifpekahaaCFnExactUnitOk19
import Derived.Test.YtedodaifpekahaaCFnExactUnitOk20
import Derived.Test.YtedodaifpekahaaCFnExactUnitOk24
section

namespace Go.Proofs.Ytedodaifpekahaa.P
open Go.RowKit Go.Proofs.YtedodaifpekahaaW.PrintWords Go.Proofs.YtedodaifpekahaaW.PrintLast Go.Proofs.YtedodaifpekahaaW.PrintMore
attribute [local go_sem] max2_int min2_int max_two min_two max_three min_three max_four min_four
set_option linter.unusedVariables false
set_option linter.unusedSimpArgs false
def spec_UnitOk.T8 : Bool × List (List Nat × List Nat) := (true, [([], []), ([], []), ([1], [1]), ([], []), ([2, 3], [2, 3]), ([4], [4]), ([0, 5], [0, 5]), ([6], [6])])
def spec_UnitOk.B8 : List Nat := [0, 0, 2, 0, 14, 30, 63, 127]
theorem spec_UnitOk.tab8 : rtab .any (opsOf Try.f6 8) = spec_UnitOk.T8 := by kernel_rfl
theorem spec_UnitOk.bits8 : waitsOk spec_UnitOk.T8.2 spec_UnitOk.B8 = true := by kernel_rfl
set_option maxHeartbeats 8000000 in
set_option maxRecDepth 100000 in
theorem spec_UnitOk.calls (k : Nat) (A0_0 : Option Addr) (c0_0 : Nat) (l0_0 : List (S76)) (A0_1 : Option Addr) (c0_1 : Nat) (l0_1 : List (S46)) (r : Bool) (w : World) (hr0_0 : Kd.C k76 w A0_0 l0_0.length l0_0) (hc0_0 : l0_0.length ≤ c0_0) (hr0_1 : Kd.C k46 w A0_1 l0_1.length l0_1) (hc0_1 : l0_1.length ≤ c0_1) (h : spec_UnitOk.f k l0_0 l0_1 = some r) :
  Calls Try.prog 6 #[.agg #[.slice A0_0 l0_0.length c0_0, .slice A0_1 l0_1.length c0_1]] w fun e w' => e = .returned (.bool r) ∧ Below w.heap.size w w' := by
 have hu31 := Try.underlying31
 have hu46 := Try.underlying46
 have HR0_0 := Aside0.mk hr0_0
 have HC0_0 := Aside0.mk hc0_0
 clear hr0_0 hc0_0
 have HR0_1 := Aside0.mk hr0_1
 have HC0_1 := Aside0.mk hc0_1
 clear hr0_1 hc0_1
 have HB := Aside0.mk (Below.refl w.heap.size w)
 have H : ((spec_ClassesOk.f k l0_0).bind fun t205 => (if t205 = true then ((spec_l6In.f (l0_1.length : Int) 1 4).bind fun t206 => (spec_UnitOk.j0 k (!t206) l0_0 l0_1)) else (spec_UnitOk.j0 k true l0_0 l0_1))) = some r := h
 clear h
 have HC2 := Aside0.mk H
 clear H
 go_enter Try.func6, Try.ntmps6
 go_upto_region 1 with (first | ((with_reducible refine gd 1 rfl ?_); (try (refine gate_guard (by rfl) ?_; dsimp only)); refine bx 1 #[.slice A0_0 l0_0.length c0_0, .slice A0_1 l0_1.length c0_1] 31 ?_; intro gb204 hg w3 hbox hb; have BK204 := Aside0.mk hbox; have GW204 := hz HB hg; have GE204 := hz HB hg; replace HB := hs HB hb; clear hb hbox hg))
 (try simp only [Act.put, List.setIfInBounds_toArray, List.set_cons_zero, List.set_cons_succ])
 go_cut [14] (fun v14 wc => ∃ (kq : Nat) (x14_1 : Bool), v14 = .bool x14_1 ∧ Aside0 (spec_UnitOk.j0 kq x14_1 l0_0 l0_1 = some r) ∧ Aside0 (kq ≤ k) ∧ Aside0 (wc.heap[gb204]? = some (.cells #[(.slice A0_0 l0_0.length c0_0), (.slice A0_1 l0_1.length c0_1)] 31 (0, 0))) ∧ Aside0 (Below w.heap.size w wc))
 case first =>
  have H := HC2.out
  clear HC2
  obtain ⟨t205, A4, H⟩ := ob H
  by_cases c5 : t205 = true
  ·subst c5
   replace H := it H
   obtain ⟨t206, A6, H⟩ := ob H
   have H' := Aside0.mk H
   clear H
   obtain ⟨_,_,_,_⟩ := cf2 BK204
   go_wp2_with (first | ((with_reducible refine gc 14 rfl ?_); refine gl (some 6) Try.func14 #[.slice A0_0 l0_0.length c0_0] rfl ?_; (with_reducible refine (spec_ClassesOk.calls k _ _ l0_0 true _ ?side1 ?side2 A4.out).mono ?_); (case side1 => exact cb HR0_0.out); (case side2 => exact HC0_0.out); rintro e w8 ⟨rfl, hb⟩; refine ⟨_, rfl, ?_⟩; replace BK204 := kb BK204 hb; replace HB := hs HB hb; (try clear hb); obtain ⟨_,_,_,_⟩ := cf2 BK204) | (go_at_call 15; (with_reducible refine (spec_l6In.calls (l0_1.length : Int) 1 4 t206 _ A6.out).mono ?_); rintro e w' ⟨rfl, ⟨nd, rfl⟩⟩))
   go_meet
   case rel => exact ⟨_, (!t206), (by first | rfl | (simp; done) | (simp [*]; done)), H', ⟨by first | omega | exact Nat.le_refl _⟩, kk BK204, ⟨bl⟩⟩
  ·replace c5 := Bool.eq_false_iff.mpr c5
   subst c5
   replace H := ie H
   have H' := Aside0.mk H
   clear H
   obtain ⟨_,_,_,_⟩ := cf2 BK204
   go_wp2_with (first | ((with_reducible refine gc 14 rfl ?_); refine gl (some 6) Try.func14 #[.slice A0_0 l0_0.length c0_0] rfl ?_; (with_reducible refine (spec_ClassesOk.calls k _ _ l0_0 false _ ?side1 ?side2 A4.out).mono ?_); (case side1 => exact cb HR0_0.out); (case side2 => exact HC0_0.out); rintro e w11 ⟨rfl, hb⟩; refine ⟨_, rfl, ?_⟩; replace BK204 := kb BK204 hb; replace HB := hs HB hb; (try clear hb)))
   go_meet
   case rel => exact ⟨_, (true), (by first | rfl | (simp; done) | (simp [*]; done)), H', ⟨by first | omega | exact Nat.le_refl _⟩, kk BK204, ⟨bl⟩⟩
 case rest =>
  clear HC2
  obtain ⟨kq, x14_1, rfl, HA, HJ1, BK204, HB⟩ := hcut
  cases kq with
  | zero => exact absurd HA.out (by simp [spec_UnitOk.j0])
  | succ kj1 =>
   have H := HA.out
   clear HA
   simp only [spec_UnitOk.j0] at H
   by_cases c12 : x14_1 = true
   ·subst c12
    replace H := it H
    obtain rfl := Option.some.inj H; clear H
    go_wp2
    go_ret
    exact fin
   ·replace c12 := Bool.eq_false_iff.mpr c12
    subst c12
    replace H := ie H
    have HC13 := Aside0.mk H
    clear H
    go_upto_region 3 with (fail)
    go_cut [37] (fun v37 wc => ∃ (kq : Nat) (x37_12 : Bool), v37 = .bool x37_12 ∧ Aside0 (spec_UnitOk.j1 kq x37_12 l0_0 l0_1 = some r) ∧ Aside0 (kq ≤ kj1) ∧ Aside0 (wc.heap[gb204]? = some (.cells #[(.slice A0_0 l0_0.length c0_0), (.slice A0_1 l0_1.length c0_1)] 31 (0, 0))) ∧ Aside0 (Below w.heap.size w wc))
    case first =>
     have H := HC13.out
     clear HC13
     by_cases c14 : 0 < (l0_1.length : Int)
     ·rw [if_pos c14] at H
      have c14b0 : decide (0 < (l0_1.length : Int)) = true := decide_eq_true c14
      have c14b1 : decide (0 < l0_1.length) = true := decide_eq_true (by omega)
      clear c14
      (first | rw [c14b0] | (simp only [i64_w, i32_w]; rw [c14b0]) | skip)
      by_cases c15 : ((rd_T46 l0_1 0).f0) = (-1)
      ·rw [if_pos c15] at H
       have c15b0 := beq_iff_eq.mpr c15
       have c15b1 := bne_eq_false_iff_eq.mpr c15
       clear c15
       by_cases c16 : (((rd_T46 l0_1 0).f2).length : Int) > 0
       ·rw [if_pos c16] at H
        have c16b0 : decide (0 < (((rd_T46 l0_1 0).f2).length : Int)) = true := decide_eq_true c16
        have c16b1 : decide (0 < ((rd_T46 l0_1 0).f2).length) = true := decide_eq_true (by omega)
        clear c16
        have H' := Aside0.mk H
        clear H
        obtain ⟨_,_,_,_⟩ := cf2 BK204
        have p207 : 0 ≤ (0 : Int) := (by omega)
        have q207 : 0 < (l0_1.length : Int) := od
        obtain ⟨ad207, A207_2, c207_2, A207_5, c207_5, A207_6, c207_6, A207_7, c207_7, e207, hx207_0, hx207_1, hx207_2, hx207_3, hx207_4, hx207_5, hx207_6, hx207_7, hl207_2, hi207_2, hl207_5, hi207_5, hl207_6, hi207_6, hl207_7, hi207_7⟩ := at_T46 HR0_1.out 0 p207 q207
        cases e207
        have qi207 : (0 < l0_1.length) = True := eq_true (by omega)
        (try rw [show ((0 : Int)).toNat = 0 from rfl] at hx207_0)
        (try rw [show 0 * 8 = 0 from rfl] at hx207_0)
        (try rw [Addr.add_zero'] at hx207_0)
        (try rw [show ((0 : Int)).toNat = 0 from rfl] at hx207_1)
        (try rw [show 0 * 8 = 0 from rfl] at hx207_1)
        (try rw [Addr.add_zero'] at hx207_1)
        (try rw [show ((0 : Int)).toNat = 0 from rfl] at hx207_2)
        (try rw [show 0 * 8 = 0 from rfl] at hx207_2)
        (try rw [Addr.add_zero'] at hx207_2)
        (try rw [show ((0 : Int)).toNat = 0 from rfl] at hx207_3)
        (try rw [show 0 * 8 = 0 from rfl] at hx207_3)
        (try rw [Addr.add_zero'] at hx207_3)
        (try rw [show ((0 : Int)).toNat = 0 from rfl] at hx207_4)
        (try rw [show 0 * 8 = 0 from rfl] at hx207_4)
        (try rw [Addr.add_zero'] at hx207_4)
        (try rw [show ((0 : Int)).toNat = 0 from rfl] at hx207_5)
        (try rw [show 0 * 8 = 0 from rfl] at hx207_5)
        (try rw [Addr.add_zero'] at hx207_5)
        (try rw [show ((0 : Int)).toNat = 0 from rfl] at hx207_6)
        (try rw [show 0 * 8 = 0 from rfl] at hx207_6)
        (try rw [Addr.add_zero'] at hx207_6)
        (try rw [show ((0 : Int)).toNat = 0 from rfl] at hx207_7)
        (try rw [show 0 * 8 = 0 from rfl] at hx207_7)
        (try rw [Addr.add_zero'] at hx207_7)
        obtain ⟨hx207_0,hx207_1,hx207_2,hx207_3,hx207_4,hx207_5,hx207_6,hx207_7⟩ := hc8 HB hx207_0 hx207_1 hx207_2 hx207_3 hx207_4 hx207_5 hx207_6 hx207_7
        have HR207_2 := Aside0.mk hi207_2
        have HC207_2 := Aside0.mk hl207_2
        clear hi207_2 hl207_2
        have HR207_5 := Aside0.mk hi207_5
        have HC207_5 := Aside0.mk hl207_5
        clear hi207_5 hl207_5
        have HR207_6 := Aside0.mk hi207_6
        have HC207_6 := Aside0.mk hl207_6
        clear hi207_6 hl207_6
        have HR207_7 := Aside0.mk hi207_7
        have HC207_7 := Aside0.mk hl207_7
        clear hi207_7 hl207_7
        replace p207 := eq_true p207
        replace q207 := eq_true q207
        have p208 : 0 ≤ (0 : Int) := (by omega)
        have q208 : 0 < (l0_1.length : Int) := od
        obtain ⟨ad208, A208_2, c208_2, A208_5, c208_5, A208_6, c208_6, A208_7, c208_7, e208, hx208_0, hx208_1, hx208_2, hx208_3, hx208_4, hx208_5, hx208_6, hx208_7, hl208_2, hi208_2, hl208_5, hi208_5, hl208_6, hi208_6, hl208_7, hi208_7⟩ := at_T46 HR0_1.out 0 p208 q208
        obtain rfl : ad207 = ad208 := (by injection e208)
        have qi208 : (0 < l0_1.length) = True := eq_true (by omega)
        (try rw [show ((0 : Int)).toNat = 0 from rfl] at hx208_0)
        (try rw [show 0 * 8 = 0 from rfl] at hx208_0)
        (try rw [Addr.add_zero'] at hx208_0)
        (try rw [show ((0 : Int)).toNat = 0 from rfl] at hx208_1)
        (try rw [show 0 * 8 = 0 from rfl] at hx208_1)
        (try rw [Addr.add_zero'] at hx208_1)
        (try rw [show ((0 : Int)).toNat = 0 from rfl] at hx208_2)
        (try rw [show 0 * 8 = 0 from rfl] at hx208_2)
        (try rw [Addr.add_zero'] at hx208_2)
        (try rw [show ((0 : Int)).toNat = 0 from rfl] at hx208_3)
        (try rw [show 0 * 8 = 0 from rfl] at hx208_3)
        (try rw [Addr.add_zero'] at hx208_3)
        (try rw [show ((0 : Int)).toNat = 0 from rfl] at hx208_4)
        (try rw [show 0 * 8 = 0 from rfl] at hx208_4)
        (try rw [Addr.add_zero'] at hx208_4)
        (try rw [show ((0 : Int)).toNat = 0 from rfl] at hx208_5)
        (try rw [show 0 * 8 = 0 from rfl] at hx208_5)
        (try rw [Addr.add_zero'] at hx208_5)
        (try rw [show ((0 : Int)).toNat = 0 from rfl] at hx208_6)
        (try rw [show 0 * 8 = 0 from rfl] at hx208_6)
        (try rw [Addr.add_zero'] at hx208_6)
        (try rw [show ((0 : Int)).toNat = 0 from rfl] at hx208_7)
        (try rw [show 0 * 8 = 0 from rfl] at hx208_7)
        (try rw [Addr.add_zero'] at hx208_7)
        obtain ⟨hx208_0,hx208_1,hx208_2,hx208_3,hx208_4,hx208_5,hx208_6,hx208_7⟩ := hc8 HB hx208_0 hx208_1 hx208_2 hx208_3 hx208_4 hx208_5 hx208_6 hx208_7
        have HR208_2 := Aside0.mk hi208_2
        have HC208_2 := Aside0.mk hl208_2
        clear hi208_2 hl208_2
        have HR208_5 := Aside0.mk hi208_5
        have HC208_5 := Aside0.mk hl208_5
        clear hi208_5 hl208_5
        have HR208_6 := Aside0.mk hi208_6
        have HC208_6 := Aside0.mk hl208_6
        clear hi208_6 hl208_6
        have HR208_7 := Aside0.mk hi208_7
        have HC208_7 := Aside0.mk hl208_7
        clear hi208_7 hl208_7
        replace p208 := eq_true p208
        replace q208 := eq_true q208
        have ea_ := Option.some.inj (hx207_2.symm.trans hx208_2)
        injection ea_ with ea_ en_ ec_
        subst ea_
        subst ec_
        clear en_
        have ea_ := Option.some.inj (hx207_5.symm.trans hx208_5)
        injection ea_ with ea_ en_ ec_
        subst ea_
        subst ec_
        clear en_
        have ea_ := Option.some.inj (hx207_6.symm.trans hx208_6)
        injection ea_ with ea_ en_ ec_
        subst ea_
        subst ec_
        clear en_
        have ea_ := Option.some.inj (hx207_7.symm.trans hx208_7)
        injection ea_ with ea_ en_ ec_
        subst ea_
        subst ec_
        clear en_
        go_wp2
        go_meet
        case rel => exact ⟨_, (true), (by first | rfl | (simp; done) | (simp [*]; done)), H', ⟨by have := HJ1.out; first | omega | exact Nat.le_refl _⟩, kk BK204, ⟨bl⟩⟩
       ·rw [if_neg c16] at H
        have c16b0 : decide (0 < (((rd_T46 l0_1 0).f2).length : Int)) = false := decide_eq_false c16
        have c16b1 : decide (0 < ((rd_T46 l0_1 0).f2).length) = false := decide_eq_false (by omega)
        clear c16
        have H' := Aside0.mk H
        clear H
        obtain ⟨_,_,_,_⟩ := cf2 BK204
        have p207 : 0 ≤ (0 : Int) := (by omega)
        have q207 : 0 < (l0_1.length : Int) := od
        obtain ⟨ad207, A207_2, c207_2, A207_5, c207_5, A207_6, c207_6, A207_7, c207_7, e207, hx207_0, hx207_1, hx207_2, hx207_3, hx207_4, hx207_5, hx207_6, hx207_7, hl207_2, hi207_2, hl207_5, hi207_5, hl207_6, hi207_6, hl207_7, hi207_7⟩ := at_T46 HR0_1.out 0 p207 q207
        cases e207
        have qi207 : (0 < l0_1.length) = True := eq_true (by omega)
        (try rw [show ((0 : Int)).toNat = 0 from rfl] at hx207_0)
        (try rw [show 0 * 8 = 0 from rfl] at hx207_0)
        (try rw [Addr.add_zero'] at hx207_0)
        (try rw [show ((0 : Int)).toNat = 0 from rfl] at hx207_1)
        (try rw [show 0 * 8 = 0 from rfl] at hx207_1)
        (try rw [Addr.add_zero'] at hx207_1)
        (try rw [show ((0 : Int)).toNat = 0 from rfl] at hx207_2)
        (try rw [show 0 * 8 = 0 from rfl] at hx207_2)
        (try rw [Addr.add_zero'] at hx207_2)
        (try rw [show ((0 : Int)).toNat = 0 from rfl] at hx207_3)
        (try rw [show 0 * 8 = 0 from rfl] at hx207_3)
        (try rw [Addr.add_zero'] at hx207_3)
        (try rw [show ((0 : Int)).toNat = 0 from rfl] at hx207_4)
        (try rw [show 0 * 8 = 0 from rfl] at hx207_4)
        (try rw [Addr.add_zero'] at hx207_4)
        (try rw [show ((0 : Int)).toNat = 0 from rfl] at hx207_5)
        (try rw [show 0 * 8 = 0 from rfl] at hx207_5)
        (try rw [Addr.add_zero'] at hx207_5)
        (try rw [show ((0 : Int)).toNat = 0 from rfl] at hx207_6)
        (try rw [show 0 * 8 = 0 from rfl] at hx207_6)
        (try rw [Addr.add_zero'] at hx207_6)
        (try rw [show ((0 : Int)).toNat = 0 from rfl] at hx207_7)
        (try rw [show 0 * 8 = 0 from rfl] at hx207_7)
        (try rw [Addr.add_zero'] at hx207_7)
        obtain ⟨hx207_0,hx207_1,hx207_2,hx207_3,hx207_4,hx207_5,hx207_6,hx207_7⟩ := hc8 HB hx207_0 hx207_1 hx207_2 hx207_3 hx207_4 hx207_5 hx207_6 hx207_7
        have HR207_2 := Aside0.mk hi207_2
        have HC207_2 := Aside0.mk hl207_2
        clear hi207_2 hl207_2
        have HR207_5 := Aside0.mk hi207_5
        have HC207_5 := Aside0.mk hl207_5
        clear hi207_5 hl207_5
        have HR207_6 := Aside0.mk hi207_6
        have HC207_6 := Aside0.mk hl207_6
        clear hi207_6 hl207_6
        have HR207_7 := Aside0.mk hi207_7
        have HC207_7 := Aside0.mk hl207_7
        clear hi207_7 hl207_7
        replace p207 := eq_true p207
        replace q207 := eq_true q207
        have p208 : 0 ≤ (0 : Int) := (by omega)
        have q208 : 0 < (l0_1.length : Int) := od
        obtain ⟨ad208, A208_2, c208_2, A208_5, c208_5, A208_6, c208_6, A208_7, c208_7, e208, hx208_0, hx208_1, hx208_2, hx208_3, hx208_4, hx208_5, hx208_6, hx208_7, hl208_2, hi208_2, hl208_5, hi208_5, hl208_6, hi208_6, hl208_7, hi208_7⟩ := at_T46 HR0_1.out 0 p208 q208
        obtain rfl : ad207 = ad208 := (by injection e208)
        have qi208 : (0 < l0_1.length) = True := eq_true (by omega)
        (try rw [show ((0 : Int)).toNat = 0 from rfl] at hx208_0)
        (try rw [show 0 * 8 = 0 from rfl] at hx208_0)
        (try rw [Addr.add_zero'] at hx208_0)
        (try rw [show ((0 : Int)).toNat = 0 from rfl] at hx208_1)
        (try rw [show 0 * 8 = 0 from rfl] at hx208_1)
        (try rw [Addr.add_zero'] at hx208_1)
        (try rw [show ((0 : Int)).toNat = 0 from rfl] at hx208_2)
        (try rw [show 0 * 8 = 0 from rfl] at hx208_2)
        (try rw [Addr.add_zero'] at hx208_2)
        (try rw [show ((0 : Int)).toNat = 0 from rfl] at hx208_3)
        (try rw [show 0 * 8 = 0 from rfl] at hx208_3)
        (try rw [Addr.add_zero'] at hx208_3)
        (try rw [show ((0 : Int)).toNat = 0 from rfl] at hx208_4)
        (try rw [show 0 * 8 = 0 from rfl] at hx208_4)
        (try rw [Addr.add_zero'] at hx208_4)
        (try rw [show ((0 : Int)).toNat = 0 from rfl] at hx208_5)
        (try rw [show 0 * 8 = 0 from rfl] at hx208_5)
        (try rw [Addr.add_zero'] at hx208_5)
        (try rw [show ((0 : Int)).toNat = 0 from rfl] at hx208_6)
        (try rw [show 0 * 8 = 0 from rfl] at hx208_6)
        (try rw [Addr.add_zero'] at hx208_6)
        (try rw [show ((0 : Int)).toNat = 0 from rfl] at hx208_7)
        (try rw [show 0 * 8 = 0 from rfl] at hx208_7)
        (try rw [Addr.add_zero'] at hx208_7)
        obtain ⟨hx208_0,hx208_1,hx208_2,hx208_3,hx208_4,hx208_5,hx208_6,hx208_7⟩ := hc8 HB hx208_0 hx208_1 hx208_2 hx208_3 hx208_4 hx208_5 hx208_6 hx208_7
        have HR208_2 := Aside0.mk hi208_2
        have HC208_2 := Aside0.mk hl208_2
        clear hi208_2 hl208_2
        have HR208_5 := Aside0.mk hi208_5
        have HC208_5 := Aside0.mk hl208_5
        clear hi208_5 hl208_5
        have HR208_6 := Aside0.mk hi208_6
        have HC208_6 := Aside0.mk hl208_6
        clear hi208_6 hl208_6
        have HR208_7 := Aside0.mk hi208_7
        have HC208_7 := Aside0.mk hl208_7
        clear hi208_7 hl208_7
        replace p208 := eq_true p208
        replace q208 := eq_true q208
        have ea_ := Option.some.inj (hx207_2.symm.trans hx208_2)
        injection ea_ with ea_ en_ ec_
        subst ea_
        subst ec_
        clear en_
        have ea_ := Option.some.inj (hx207_5.symm.trans hx208_5)
        injection ea_ with ea_ en_ ec_
        subst ea_
        subst ec_
        clear en_
        have ea_ := Option.some.inj (hx207_6.symm.trans hx208_6)
        injection ea_ with ea_ en_ ec_
        subst ea_
        subst ec_
        clear en_
        have ea_ := Option.some.inj (hx207_7.symm.trans hx208_7)
        injection ea_ with ea_ en_ ec_
        subst ea_
        subst ec_
        clear en_
        have p209 : 0 ≤ (0 : Int) := (by omega)
        have q209 : 0 < (l0_1.length : Int) := od
        obtain ⟨ad209, A209_2, c209_2, A209_5, c209_5, A209_6, c209_6, A209_7, c209_7, e209, hx209_0, hx209_1, hx209_2, hx209_3, hx209_4, hx209_5, hx209_6, hx209_7, hl209_2, hi209_2, hl209_5, hi209_5, hl209_6, hi209_6, hl209_7, hi209_7⟩ := at_T46 HR0_1.out 0 p209 q209
        obtain rfl : ad207 = ad209 := (by injection e209)
        have qi209 : (0 < l0_1.length) = True := eq_true (by omega)
        (try rw [show ((0 : Int)).toNat = 0 from rfl] at hx209_0)
        (try rw [show 0 * 8 = 0 from rfl] at hx209_0)
        (try rw [Addr.add_zero'] at hx209_0)
        (try rw [show ((0 : Int)).toNat = 0 from rfl] at hx209_1)
        (try rw [show 0 * 8 = 0 from rfl] at hx209_1)
        (try rw [Addr.add_zero'] at hx209_1)
        (try rw [show ((0 : Int)).toNat = 0 from rfl] at hx209_2)
        (try rw [show 0 * 8 = 0 from rfl] at hx209_2)
        (try rw [Addr.add_zero'] at hx209_2)
        (try rw [show ((0 : Int)).toNat = 0 from rfl] at hx209_3)
        (try rw [show 0 * 8 = 0 from rfl] at hx209_3)
        (try rw [Addr.add_zero'] at hx209_3)
        (try rw [show ((0 : Int)).toNat = 0 from rfl] at hx209_4)
        (try rw [show 0 * 8 = 0 from rfl] at hx209_4)
        (try rw [Addr.add_zero'] at hx209_4)
        (try rw [show ((0 : Int)).toNat = 0 from rfl] at hx209_5)
        (try rw [show 0 * 8 = 0 from rfl] at hx209_5)
        (try rw [Addr.add_zero'] at hx209_5)
        (try rw [show ((0 : Int)).toNat = 0 from rfl] at hx209_6)
        (try rw [show 0 * 8 = 0 from rfl] at hx209_6)
        (try rw [Addr.add_zero'] at hx209_6)
        (try rw [show ((0 : Int)).toNat = 0 from rfl] at hx209_7)
        (try rw [show 0 * 8 = 0 from rfl] at hx209_7)
        (try rw [Addr.add_zero'] at hx209_7)
        obtain ⟨hx209_0,hx209_1,hx209_2,hx209_3,hx209_4,hx209_5,hx209_6,hx209_7⟩ := hc8 HB hx209_0 hx209_1 hx209_2 hx209_3 hx209_4 hx209_5 hx209_6 hx209_7
        have HR209_2 := Aside0.mk hi209_2
        have HC209_2 := Aside0.mk hl209_2
        clear hi209_2 hl209_2
        have HR209_5 := Aside0.mk hi209_5
        have HC209_5 := Aside0.mk hl209_5
        clear hi209_5 hl209_5
        have HR209_6 := Aside0.mk hi209_6
        have HC209_6 := Aside0.mk hl209_6
        clear hi209_6 hl209_6
        have HR209_7 := Aside0.mk hi209_7
        have HC209_7 := Aside0.mk hl209_7
        clear hi209_7 hl209_7
        replace p209 := eq_true p209
        replace q209 := eq_true q209
        have ea_ := Option.some.inj (hx207_2.symm.trans hx209_2)
        injection ea_ with ea_ en_ ec_
        subst ea_
        subst ec_
        clear en_
        have ea_ := Option.some.inj (hx207_5.symm.trans hx209_5)
        injection ea_ with ea_ en_ ec_
        subst ea_
        subst ec_
        clear en_
        have ea_ := Option.some.inj (hx207_6.symm.trans hx209_6)
        injection ea_ with ea_ en_ ec_
        subst ea_
        subst ec_
        clear en_
        have ea_ := Option.some.inj (hx207_7.symm.trans hx209_7)
        injection ea_ with ea_ en_ ec_
        subst ea_
        subst ec_
        clear en_
        go_wp2
        go_meet
        case rel => exact ⟨_, ((((rd_T46 l0_1 0).f3) != 1)), (by first | rfl | (simp; done) | (simp [*]; done)), H', ⟨by have := HJ1.out; first | omega | exact Nat.le_refl _⟩, kk BK204, ⟨bl⟩⟩
      ·rw [if_neg c15] at H
       have c15b0 := beq_eq_false_iff_ne.mpr c15
       have c15b1 := bne_iff_ne.mpr c15
       have H' := Aside0.mk H
       clear H
       obtain ⟨_,_,_,_⟩ := cf2 BK204
       have p207 : 0 ≤ (0 : Int) := (by omega)
       have q207 : 0 < (l0_1.length : Int) := od
       obtain ⟨ad207, A207_2, c207_2, A207_5, c207_5, A207_6, c207_6, A207_7, c207_7, e207, hx207_0, hx207_1, hx207_2, hx207_3, hx207_4, hx207_5, hx207_6, hx207_7, hl207_2, hi207_2, hl207_5, hi207_5, hl207_6, hi207_6, hl207_7, hi207_7⟩ := at_T46 HR0_1.out 0 p207 q207
       cases e207
       have qi207 : (0 < l0_1.length) = True := eq_true (by omega)
       (try rw [show ((0 : Int)).toNat = 0 from rfl] at hx207_0)
       (try rw [show 0 * 8 = 0 from rfl] at hx207_0)
       (try rw [Addr.add_zero'] at hx207_0)
       (try rw [show ((0 : Int)).toNat = 0 from rfl] at hx207_1)
       (try rw [show 0 * 8 = 0 from rfl] at hx207_1)
       (try rw [Addr.add_zero'] at hx207_1)
       (try rw [show ((0 : Int)).toNat = 0 from rfl] at hx207_2)
       (try rw [show 0 * 8 = 0 from rfl] at hx207_2)
       (try rw [Addr.add_zero'] at hx207_2)
       (try rw [show ((0 : Int)).toNat = 0 from rfl] at hx207_3)
       (try rw [show 0 * 8 = 0 from rfl] at hx207_3)
       (try rw [Addr.add_zero'] at hx207_3)
       (try rw [show ((0 : Int)).toNat = 0 from rfl] at hx207_4)
       (try rw [show 0 * 8 = 0 from rfl] at hx207_4)
       (try rw [Addr.add_zero'] at hx207_4)
       (try rw [show ((0 : Int)).toNat = 0 from rfl] at hx207_5)
       (try rw [show 0 * 8 = 0 from rfl] at hx207_5)
       (try rw [Addr.add_zero'] at hx207_5)
       (try rw [show ((0 : Int)).toNat = 0 from rfl] at hx207_6)
       (try rw [show 0 * 8 = 0 from rfl] at hx207_6)
       (try rw [Addr.add_zero'] at hx207_6)
       (try rw [show ((0 : Int)).toNat = 0 from rfl] at hx207_7)
       (try rw [show 0 * 8 = 0 from rfl] at hx207_7)
       (try rw [Addr.add_zero'] at hx207_7)
       obtain ⟨hx207_0,hx207_1,hx207_2,hx207_3,hx207_4,hx207_5,hx207_6,hx207_7⟩ := hc8 HB hx207_0 hx207_1 hx207_2 hx207_3 hx207_4 hx207_5 hx207_6 hx207_7
       have HR207_2 := Aside0.mk hi207_2
       have HC207_2 := Aside0.mk hl207_2
       clear hi207_2 hl207_2
       have HR207_5 := Aside0.mk hi207_5
       have HC207_5 := Aside0.mk hl207_5
       clear hi207_5 hl207_5
       have HR207_6 := Aside0.mk hi207_6
       have HC207_6 := Aside0.mk hl207_6
       clear hi207_6 hl207_6
       have HR207_7 := Aside0.mk hi207_7
       have HC207_7 := Aside0.mk hl207_7
       clear hi207_7 hl207_7
       replace p207 := eq_true p207
       replace q207 := eq_true q207
       go_wp2
       go_meet
       case rel => exact ⟨_, (true), (by first | rfl | (simp; done) | (simp [*]; done)), H', ⟨by have := HJ1.out; first | omega | exact Nat.le_refl _⟩, kk BK204, ⟨bl⟩⟩
     ·rw [if_neg c14] at H
      exact absurd H (by simp)
    case rest =>
     clear HC13
     obtain ⟨kq, x37_12, rfl, HA, HJ12, BK204, HB⟩ := hcut
     cases kq with
     | zero => exact absurd HA.out (by simp [spec_UnitOk.j1])
     | succ kj12 =>
      have H := HA.out
      clear HA
      simp only [spec_UnitOk.j1] at H
      by_cases c20 : x37_12 = true
      ·subst c20
       replace H := it H
       obtain rfl := Option.some.inj H; clear H
       go_wp2
       go_ret
       exact fin
      ·replace c20 := Bool.eq_false_iff.mpr c20
       subst c20
       replace H := ie H
       have H' := Aside0.mk H
       clear H
       go_wp2
       go_loopg [3] kj12 (fun kq v3 w' => ∃ (x3_3 : Int), v3 = .int .i64 x3_3 ∧ Aside0 (spec_UnitOk.l0 kq x3_3 l0_0 l0_1 = some r) ∧ Aside0 (kq ≤ kj12) ∧ Aside0 (w'.heap[gb204]? = some (.cells #[(.slice A0_0 l0_0.length c0_0), (.slice A0_1 l0_1.length c0_1)] 31 (0, 0))) ∧ Aside0 (Below w.heap.size w w'))
       case atStart => exact ⟨(0), (by first | rfl | (simp; done) | (simp [*]; done)), H', ⟨Nat.le_refl _⟩, kk BK204, ⟨bl⟩⟩
       case round =>
        clear H'
        obtain ⟨x3_3, rfl, HA, HK3, BK204, HB⟩ := hrel
        cases gk with
        | zero => exact absurd HA.out (by simp [spec_UnitOk.l0])
        | succ k3 =>
         have H := HA.out
         clear HA
         simp only [spec_UnitOk.l0] at H
         by_cases c21 : x3_3 < (l0_1.length : Int)
         ·rw [if_pos c21] at H
          have c21b0 : decide (x3_3 < (l0_1.length : Int)) = true := decide_eq_true c21
          clear c21
          by_cases c22 : 0 ≤ x3_3
          ·rw [if_pos c22] at H
           have c22b0 : decide (0 ≤ x3_3) = true := decide_eq_true c22
           clear c22
           obtain ⟨t211, A23, H⟩ := ob H
           by_cases c24 : t211 = true
           ·subst c24
            replace H := it H
            have H' := Aside0.mk H
            clear H
            obtain ⟨_,_,_,_⟩ := cf2 BK204
            try go_wp2
            replace BK204 := Aside0.mk (blk_drew BK204.out)
            replace HB := Aside0.mk (below_drew1 HB.out)
            have p210 : 0 ≤ (x3_3 : Int) := od
            have q210 : x3_3 < (l0_1.length : Int) := od
            obtain ⟨ad210, A210_2, c210_2, A210_5, c210_5, A210_6, c210_6, A210_7, c210_7, e210, hx210_0, hx210_1, hx210_2, hx210_3, hx210_4, hx210_5, hx210_6, hx210_7, hl210_2, hi210_2, hl210_5, hi210_5, hl210_6, hi210_6, hl210_7, hi210_7⟩ := at_T46 HR0_1.out x3_3 p210 q210
            have hw210_7 := hx210_7
            have hw210_6 := hx210_6
            have hw210_5 := hx210_5
            have hw210_4 := hx210_4
            have hw210_3 := hx210_3
            have hw210_2 := hx210_2
            have hw210_1 := hx210_1
            have hw210_0 := hx210_0
            cases e210
            obtain ⟨hx210_0,hx210_1,hx210_2,hx210_3,hx210_4,hx210_5,hx210_6,hx210_7⟩ := hc8 HB hx210_0 hx210_1 hx210_2 hx210_3 hx210_4 hx210_5 hx210_6 hx210_7
            have HR210_2 := Aside0.mk hi210_2
            have HC210_2 := Aside0.mk hl210_2
            clear hi210_2 hl210_2
            have HR210_5 := Aside0.mk hi210_5
            have HC210_5 := Aside0.mk hl210_5
            clear hi210_5 hl210_5
            have HR210_6 := Aside0.mk hi210_6
            have HC210_6 := Aside0.mk hl210_6
            clear hi210_6 hl210_6
            have HR210_7 := Aside0.mk hi210_7
            have HC210_7 := Aside0.mk hl210_7
            clear hi210_7 hl210_7
            replace p210 := eq_true p210
            replace q210 := eq_true q210
            refine start_ (n := 8) (S := fun w' => w'.cell? ⟨gb204, 0, none⟩ = some (.slice A0_0 l0_0.length c0_0) ∧ w'.cell? ⟨gb204, 1, none⟩ = some (.slice (some ad210) l0_1.length c0_1) ∧ w'.cell? (ad210.add ((x3_3).toNat * 8)) = some (.int .i64 ((rd_T46 l0_1 x3_3).f0)) ∧ w'.cell? ⟨(ad210.add ((x3_3).toNat * 8)).block, (ad210.add ((x3_3).toNat * 8)).off + 1, none⟩ = some (.int .i64 ((rd_T46 l0_1 x3_3).f1)) ∧ w'.cell? ⟨(ad210.add ((x3_3).toNat * 8)).block, (ad210.add ((x3_3).toNat * 8)).off + 2, none⟩ = some (.slice A210_2 ((rd_T46 l0_1 x3_3).f2).length c210_2) ∧ w'.cell? ⟨(ad210.add ((x3_3).toNat * 8)).block, (ad210.add ((x3_3).toNat * 8)).off + 3, none⟩ = some (.int .i64 ((rd_T46 l0_1 x3_3).f3)) ∧ w'.cell? ⟨(ad210.add ((x3_3).toNat * 8)).block, (ad210.add ((x3_3).toNat * 8)).off + 4, none⟩ = some (.int .i64 ((rd_T46 l0_1 x3_3).f4)) ∧ w'.cell? ⟨(ad210.add ((x3_3).toNat * 8)).block, (ad210.add ((x3_3).toNat * 8)).off + 5, none⟩ = some (.slice A210_5 ((rd_T46 l0_1 x3_3).f5).length c210_5) ∧ w'.cell? ⟨(ad210.add ((x3_3).toNat * 8)).block, (ad210.add ((x3_3).toNat * 8)).off + 6, none⟩ = some (.slice A210_6 ((rd_T46 l0_1 x3_3).f6).length c210_6) ∧ w'.cell? ⟨(ad210.add ((x3_3).toNat * 8)).block, (ad210.add ((x3_3).toNat * 8)).off + 7, none⟩ = some (.slice A210_7 ((rd_T46 l0_1 x3_3).f7).length c210_7)) (ds := []) #[false, false, false, false, false, false, false, false] (by kernel_rfl) rfl rfl ⟨(blk_cell BK204.out 0).trans rfl, (blk_cell BK204.out 1).trans rfl, ((HB.out.cell (World.block_lt_of_cell? w _ hw210_0)).trans hw210_0), ((HB.out.cell (World.block_lt_of_cell? w _ hw210_1)).trans hw210_1), ((HB.out.cell (World.block_lt_of_cell? w _ hw210_2)).trans hw210_2), ((HB.out.cell (World.block_lt_of_cell? w _ hw210_3)).trans hw210_3), ((HB.out.cell (World.block_lt_of_cell? w _ hw210_4)).trans hw210_4), ((HB.out.cell (World.block_lt_of_cell? w _ hw210_5)).trans hw210_5), ((HB.out.cell (World.block_lt_of_cell? w _ hw210_6)).trans hw210_6), ((HB.out.cell (World.block_lt_of_cell? w _ hw210_7)).trans hw210_7)⟩ (fun hHeld => ?_); refine with_tabW spec_UnitOk.tab8 spec_UnitOk.bits8 (fun HT_ HW_ => ?_)
            generalize wr.drew = w26 at BK204 HB HR210_2 HR210_5 HR210_6 HR210_7 hx210_0 hx210_1 hx210_2 hx210_3 hx210_4 hx210_5 hx210_6 hx210_7 hHeld ⊢
            refine pu 1 46 #[false, true, false, false, false, false, false, false] HT_ rfl rfl ?_
            refine pu 3 48 #[false, true, false, true, false, false, false, false] HT_ rfl rfl ?_
            refine ta 0 45 #[true, true, false, true, false, false, false, false] HT_ HW_ hHeld rfl rfl ?_
            refine ta 2 47 #[true, true, true, true, false, false, false, false] HT_ HW_ hHeld rfl rfl ?_
            refine pu 4 49 #[true, true, true, true, true, false, false, false] HT_ rfl rfl ?_
            refine ta 5 50 #[true, true, true, true, true, true, false, false] HT_ HW_ hHeld rfl rfl ?_
            refine one_ (i := 6) (N := some 51) #[true, true, true, true, true, true, true, false] rfl rfl (one_of HT_.out (by kernel_rfl)) (by decide) (fun K hK => ?_)
            refine gs Try.func16 #[.agg #[.slice A0_0 l0_0.length c0_0, .slice (some ad210) l0_1.length c0_1], .agg #[.int .i64 ((rd_T46 l0_1 x3_3).f0), .int .i64 ((rd_T46 l0_1 x3_3).f1), .slice A210_2 ((rd_T46 l0_1 x3_3).f2).length c210_2, .int .i64 ((rd_T46 l0_1 x3_3).f3), .int .i64 ((rd_T46 l0_1 x3_3).f4), .slice A210_5 ((rd_T46 l0_1 x3_3).f5).length c210_5, .slice A210_6 ((rd_T46 l0_1 x3_3).f6).length c210_6, .slice A210_7 ((rd_T46 l0_1 x3_3).f7).length c210_7]] rfl rfl ?_
            with_reducible refine (spec_l3Method.calls k3 _ _ l0_0 _ _ l0_1 ((rd_T46 l0_1 x3_3).f0) ((rd_T46 l0_1 x3_3).f1) _ _ ((rd_T46 l0_1 x3_3).f2) ((rd_T46 l0_1 x3_3).f3) ((rd_T46 l0_1 x3_3).f4) _ _ ((rd_T46 l0_1 x3_3).f5) _ _ ((rd_T46 l0_1 x3_3).f6) _ _ ((rd_T46 l0_1 x3_3).f7) true _ ?side1 ?side2 ?side3 ?side4 ?side5 ?side6 ?side7 ?side8 ?side9 ?side10 ?side11 ?side12 A23.out).mono ?_
            (case side1 => exact cb HR0_0.out)
            (case side2 => exact HC0_0.out)
            (case side3 => exact cb HR0_1.out)
            (case side4 => exact HC0_1.out)
            (case side5 => exact cb HR210_2.out)
            (case side6 => exact HC210_2.out)
            (case side7 => exact cb HR210_5.out)
            (case side8 => exact HC210_5.out)
            (case side9 => exact cb HR210_6.out)
            (case side10 => exact HC210_6.out)
            (case side11 => exact cb HR210_7.out)
            (case side12 => exact HC210_7.out)
            rintro e w27 ⟨rfl, hb⟩
            refine ⟨_, rfl, ?_⟩
            replace BK204 := kb BK204 hb
            replace HB := hs HB hb
            (try clear hb)
            (try clear hb2)
            (try clear hk)
            (try clear hi)
            refine hK.out _ _ ⟨(blk_cell BK204.out 0).trans rfl, (blk_cell BK204.out 1).trans rfl, ((HB.out.cell (World.block_lt_of_cell? w _ hw210_0)).trans hw210_0), ((HB.out.cell (World.block_lt_of_cell? w _ hw210_1)).trans hw210_1), ((HB.out.cell (World.block_lt_of_cell? w _ hw210_2)).trans hw210_2), ((HB.out.cell (World.block_lt_of_cell? w _ hw210_3)).trans hw210_3), ((HB.out.cell (World.block_lt_of_cell? w _ hw210_4)).trans hw210_4), ((HB.out.cell (World.block_lt_of_cell? w _ hw210_5)).trans hw210_5), ((HB.out.cell (World.block_lt_of_cell? w _ hw210_6)).trans hw210_6), ((HB.out.cell (World.block_lt_of_cell? w _ hw210_7)).trans hw210_7)⟩ (fun hHeld => ?_)
            clear hK K
            refine no 51 ?_
            refine pu 7 52 #[true, true, true, true, true, true, true, true] HT_ rfl rfl ?_
            refine done_ (done_of HT_.out (by kernel_rfl)) ?_
            try go_wp2
            go_roundg k3
            case measure => have := HJ1.out; have := HJ12.out; have := HK3.out; omega
            case rel => exact ⟨(wrap64 (x3_3 + 1)), (by first | rfl | (simp; done) | (simp [*]; done)), H', ⟨by have := HJ1.out; have := HJ12.out; have := HK3.out; omega⟩, kk BK204, ⟨bl⟩⟩
           ·replace c24 := Bool.eq_false_iff.mpr c24
            subst c24
            replace H := ie H
            obtain rfl := Option.some.inj H; clear H
            obtain ⟨_,_,_,_⟩ := cf2 BK204
            try go_wp2
            replace BK204 := Aside0.mk (blk_drew BK204.out)
            replace HB := Aside0.mk (below_drew1 HB.out)
            have p210 : 0 ≤ (x3_3 : Int) := od
            have q210 : x3_3 < (l0_1.length : Int) := od
            obtain ⟨ad210, A210_2, c210_2, A210_5, c210_5, A210_6, c210_6, A210_7, c210_7, e210, hx210_0, hx210_1, hx210_2, hx210_3, hx210_4, hx210_5, hx210_6, hx210_7, hl210_2, hi210_2, hl210_5, hi210_5, hl210_6, hi210_6, hl210_7, hi210_7⟩ := at_T46 HR0_1.out x3_3 p210 q210
            have hw210_7 := hx210_7
            have hw210_6 := hx210_6
            have hw210_5 := hx210_5
            have hw210_4 := hx210_4
            have hw210_3 := hx210_3
            have hw210_2 := hx210_2
            have hw210_1 := hx210_1
            have hw210_0 := hx210_0
            cases e210
            obtain ⟨hx210_0,hx210_1,hx210_2,hx210_3,hx210_4,hx210_5,hx210_6,hx210_7⟩ := hc8 HB hx210_0 hx210_1 hx210_2 hx210_3 hx210_4 hx210_5 hx210_6 hx210_7
            have HR210_2 := Aside0.mk hi210_2
            have HC210_2 := Aside0.mk hl210_2
            clear hi210_2 hl210_2
            have HR210_5 := Aside0.mk hi210_5
            have HC210_5 := Aside0.mk hl210_5
            clear hi210_5 hl210_5
            have HR210_6 := Aside0.mk hi210_6
            have HC210_6 := Aside0.mk hl210_6
            clear hi210_6 hl210_6
            have HR210_7 := Aside0.mk hi210_7
            have HC210_7 := Aside0.mk hl210_7
            clear hi210_7 hl210_7
            replace p210 := eq_true p210
            replace q210 := eq_true q210
            refine start_ (n := 8) (S := fun w' => w'.cell? ⟨gb204, 0, none⟩ = some (.slice A0_0 l0_0.length c0_0) ∧ w'.cell? ⟨gb204, 1, none⟩ = some (.slice (some ad210) l0_1.length c0_1) ∧ w'.cell? (ad210.add ((x3_3).toNat * 8)) = some (.int .i64 ((rd_T46 l0_1 x3_3).f0)) ∧ w'.cell? ⟨(ad210.add ((x3_3).toNat * 8)).block, (ad210.add ((x3_3).toNat * 8)).off + 1, none⟩ = some (.int .i64 ((rd_T46 l0_1 x3_3).f1)) ∧ w'.cell? ⟨(ad210.add ((x3_3).toNat * 8)).block, (ad210.add ((x3_3).toNat * 8)).off + 2, none⟩ = some (.slice A210_2 ((rd_T46 l0_1 x3_3).f2).length c210_2) ∧ w'.cell? ⟨(ad210.add ((x3_3).toNat * 8)).block, (ad210.add ((x3_3).toNat * 8)).off + 3, none⟩ = some (.int .i64 ((rd_T46 l0_1 x3_3).f3)) ∧ w'.cell? ⟨(ad210.add ((x3_3).toNat * 8)).block, (ad210.add ((x3_3).toNat * 8)).off + 4, none⟩ = some (.int .i64 ((rd_T46 l0_1 x3_3).f4)) ∧ w'.cell? ⟨(ad210.add ((x3_3).toNat * 8)).block, (ad210.add ((x3_3).toNat * 8)).off + 5, none⟩ = some (.slice A210_5 ((rd_T46 l0_1 x3_3).f5).length c210_5) ∧ w'.cell? ⟨(ad210.add ((x3_3).toNat * 8)).block, (ad210.add ((x3_3).toNat * 8)).off + 6, none⟩ = some (.slice A210_6 ((rd_T46 l0_1 x3_3).f6).length c210_6) ∧ w'.cell? ⟨(ad210.add ((x3_3).toNat * 8)).block, (ad210.add ((x3_3).toNat * 8)).off + 7, none⟩ = some (.slice A210_7 ((rd_T46 l0_1 x3_3).f7).length c210_7)) (ds := []) #[false, false, false, false, false, false, false, false] (by kernel_rfl) rfl rfl ⟨(blk_cell BK204.out 0).trans rfl, (blk_cell BK204.out 1).trans rfl, ((HB.out.cell (World.block_lt_of_cell? w _ hw210_0)).trans hw210_0), ((HB.out.cell (World.block_lt_of_cell? w _ hw210_1)).trans hw210_1), ((HB.out.cell (World.block_lt_of_cell? w _ hw210_2)).trans hw210_2), ((HB.out.cell (World.block_lt_of_cell? w _ hw210_3)).trans hw210_3), ((HB.out.cell (World.block_lt_of_cell? w _ hw210_4)).trans hw210_4), ((HB.out.cell (World.block_lt_of_cell? w _ hw210_5)).trans hw210_5), ((HB.out.cell (World.block_lt_of_cell? w _ hw210_6)).trans hw210_6), ((HB.out.cell (World.block_lt_of_cell? w _ hw210_7)).trans hw210_7)⟩ (fun hHeld => ?_); refine with_tabW spec_UnitOk.tab8 spec_UnitOk.bits8 (fun HT_ HW_ => ?_)
            generalize wr.drew = w29 at BK204 HB HR210_2 HR210_5 HR210_6 HR210_7 hx210_0 hx210_1 hx210_2 hx210_3 hx210_4 hx210_5 hx210_6 hx210_7 hHeld ⊢
            refine pu 1 46 #[false, true, false, false, false, false, false, false] HT_ rfl rfl ?_
            refine pu 3 48 #[false, true, false, true, false, false, false, false] HT_ rfl rfl ?_
            refine ta 0 45 #[true, true, false, true, false, false, false, false] HT_ HW_ hHeld rfl rfl ?_
            refine ta 2 47 #[true, true, true, true, false, false, false, false] HT_ HW_ hHeld rfl rfl ?_
            refine pu 4 49 #[true, true, true, true, true, false, false, false] HT_ rfl rfl ?_
            refine ta 5 50 #[true, true, true, true, true, true, false, false] HT_ HW_ hHeld rfl rfl ?_
            refine one_ (i := 6) (N := some 51) #[true, true, true, true, true, true, true, false] rfl rfl (one_of HT_.out (by kernel_rfl)) (by decide) (fun K hK => ?_)
            refine gs Try.func16 #[.agg #[.slice A0_0 l0_0.length c0_0, .slice (some ad210) l0_1.length c0_1], .agg #[.int .i64 ((rd_T46 l0_1 x3_3).f0), .int .i64 ((rd_T46 l0_1 x3_3).f1), .slice A210_2 ((rd_T46 l0_1 x3_3).f2).length c210_2, .int .i64 ((rd_T46 l0_1 x3_3).f3), .int .i64 ((rd_T46 l0_1 x3_3).f4), .slice A210_5 ((rd_T46 l0_1 x3_3).f5).length c210_5, .slice A210_6 ((rd_T46 l0_1 x3_3).f6).length c210_6, .slice A210_7 ((rd_T46 l0_1 x3_3).f7).length c210_7]] rfl rfl ?_
            with_reducible refine (spec_l3Method.calls k3 _ _ l0_0 _ _ l0_1 ((rd_T46 l0_1 x3_3).f0) ((rd_T46 l0_1 x3_3).f1) _ _ ((rd_T46 l0_1 x3_3).f2) ((rd_T46 l0_1 x3_3).f3) ((rd_T46 l0_1 x3_3).f4) _ _ ((rd_T46 l0_1 x3_3).f5) _ _ ((rd_T46 l0_1 x3_3).f6) _ _ ((rd_T46 l0_1 x3_3).f7) false _ ?side1 ?side2 ?side3 ?side4 ?side5 ?side6 ?side7 ?side8 ?side9 ?side10 ?side11 ?side12 A23.out).mono ?_
            (case side1 => exact cb HR0_0.out)
            (case side2 => exact HC0_0.out)
            (case side3 => exact cb HR0_1.out)
            (case side4 => exact HC0_1.out)
            (case side5 => exact cb HR210_2.out)
            (case side6 => exact HC210_2.out)
            (case side7 => exact cb HR210_5.out)
            (case side8 => exact HC210_5.out)
            (case side9 => exact cb HR210_6.out)
            (case side10 => exact HC210_6.out)
            (case side11 => exact cb HR210_7.out)
            (case side12 => exact HC210_7.out)
            rintro e w30 ⟨rfl, hb⟩
            refine ⟨_, rfl, ?_⟩
            replace BK204 := kb BK204 hb
            replace HB := hs HB hb
            (try clear hb)
            (try clear hb2)
            (try clear hk)
            (try clear hi)
            refine hK.out _ _ ⟨(blk_cell BK204.out 0).trans rfl, (blk_cell BK204.out 1).trans rfl, ((HB.out.cell (World.block_lt_of_cell? w _ hw210_0)).trans hw210_0), ((HB.out.cell (World.block_lt_of_cell? w _ hw210_1)).trans hw210_1), ((HB.out.cell (World.block_lt_of_cell? w _ hw210_2)).trans hw210_2), ((HB.out.cell (World.block_lt_of_cell? w _ hw210_3)).trans hw210_3), ((HB.out.cell (World.block_lt_of_cell? w _ hw210_4)).trans hw210_4), ((HB.out.cell (World.block_lt_of_cell? w _ hw210_5)).trans hw210_5), ((HB.out.cell (World.block_lt_of_cell? w _ hw210_6)).trans hw210_6), ((HB.out.cell (World.block_lt_of_cell? w _ hw210_7)).trans hw210_7)⟩ (fun hHeld => ?_)
            clear hK K
            refine no 51 ?_
            refine pu 7 52 #[true, true, true, true, true, true, true, true] HT_ rfl rfl ?_
            refine done_ (done_of HT_.out (by kernel_rfl)) ?_
            try go_wp2
            go_ret
            exact fin
          ·rw [if_neg c22] at H
           exact absurd H (by simp)
         ·rw [if_neg c21] at H
          have c21b0 : decide (x3_3 < (l0_1.length : Int)) = false := decide_eq_false c21
          clear c21
          obtain ⟨t212, A31, H⟩ := ob H
          obtain rfl := Option.some.inj H; clear H
          obtain ⟨_,_,_,_⟩ := cf2 BK204
          go_wp2_with (first | ((with_reducible refine gc 17 rfl ?_); refine gl (some 54) Try.func17 #[.agg #[.slice A0_0 l0_0.length c0_0, .slice A0_1 l0_1.length c0_1]] rfl ?_; (with_reducible refine (spec_l3Apart.calls k3 _ _ l0_0 _ _ l0_1 t212 _ ?side1 ?side2 ?side3 ?side4 A31.out).mono ?_); (case side1 => exact cb HR0_0.out); (case side2 => exact HC0_0.out); (case side3 => exact cb HR0_1.out); (case side4 => exact HC0_1.out); rintro e w33 ⟨rfl, hb⟩; refine ⟨_, rfl, ?_⟩; replace BK204 := kb BK204 hb; replace HB := hs HB hb; (try clear hb)))
          go_ret
          exact fin
end Go.Proofs.Ytedodaifpekahaa.P

end
section

namespace Go.Proofs.Ytedodaifpekahaa.P
open Go.RowKit Go.Proofs.YtedodaifpekahaaW.PrintWords Go.Proofs.YtedodaifpekahaaW.PrintLast Go.Proofs.YtedodaifpekahaaW.PrintMore
attribute [local go_sem] max2_int min2_int max_two min_two max_three min_three max_four min_four
set_option linter.unusedVariables false
set_option linter.unusedSimpArgs false
set_option maxHeartbeats 8000000 in
set_option maxRecDepth 100000 in
theorem laws_toIntS.calls (k : Nat) (A0 : Option Addr) (c0 : Nat) (l0 : List Int) (r : List Int) (w : World) (hr0 : Kd.C (Kd.int .i64) w A0 l0.length l0) (hc0 : l0.length ≤ c0) (h : laws_toIntS.f k l0 = some r) :
  Calls Try.prog 58 #[.slice A0 l0.length c0] w fun e w' => ∃ v0_ : Value, e = .returned (v0_) ∧ Kd.R (Kd.int .i64) 3 w' w.heap.size (fun _ => True) v0_ r ∧ Below w.heap.size w w' := by
 have HR0 := Aside0.mk hr0
 have HC0 := Aside0.mk hc0
 clear hr0 hc0
 have HB := Aside0.mk (Below.refl w.heap.size w)
 have H : (if 0 ≤ (l0.length : Int) then (if ((l0.length : Int) : Int).toNat ≤ 35184372088832 then (laws_toIntS.l0 k l0 (List.replicate ((l0.length : Int) : Int).toNat 0) 0) else (none)) else (none)) = some r := h
 clear h
 by_cases c2 : 0 ≤ (l0.length : Int)
 ·rw [if_pos c2] at H
  have c2b0 := eq_true c2
  have c2b1 : decide (0 ≤ (l0.length : Int)) = true := decide_eq_true c2
  clear c2
  by_cases c3 : ((l0.length : Int) : Int).toNat ≤ 35184372088832
  ·rw [if_pos c3] at H
   have c3b0 := eq_true c3
   have c3b1 : decide (((l0.length : Int) : Int).toNat ≤ 35184372088832) = true := decide_eq_true c3
   clear c3
   obtain ⟨y213, hy213⟩ : ∃ y_ : List Int, y_ = (List.replicate ((l0.length : Int) : Int).toNat 0) := ⟨_, rfl⟩
   replace H : (laws_toIntS.l0 k l0 y213 0) = some r := by first | (rw [hy213]; with_reducible exact H) | (have H2_ := (Option.bind_some _ _).symm.trans H; rw [hy213]; with_reducible exact H2_) | (have H2_ := (Option.bind_some _ _).symm.trans H; with_reducible exact H2_) | with_reducible exact H | (rw [hy213]; exact H) | exact H
   have Ny213 := Aside0.mk hy213
   clear hy213
   have H' := Aside0.mk H
   clear H
   go_enter Try.func58, Try.ntmps58
   go_wp2_with (first | ((with_reducible refine gd 7 rfl ?_); refine Kd.R_make (Kd.int .i64) _ 3 rfl (N := 7) rfl 41 _ _ rfl (l0.length : Int) rfl rfl Try.underlying41 (.int .i64 0) 8 info3 rfl (by decide) (by omega) 0 (ok := fun _ => True) (okp := fun _ => True) rfl (fun _ hk => hk) trivial (of_decide_eq_true (by first | (with_reducible assumption) | assumption)) (Nat.le_trans (Nat.mul_le_mul_right _ (of_decide_eq_true (by first | (with_reducible assumption) | assumption) : (l0.length : Int).toNat ≤ 35184372088832)) (by omega)) (Below.refl _ _) (Nat.le_refl _) ?_; intro v214 w4 ho5 hb hg_ hnew_; clear hg_ hnew_; (first | rw [← Ny213.out] at ho5 | (simp only [Int.reduceToNat] at ho5; rw [← Ny213.out] at ho5)); have HO215 := Aside0.mk (Kd.R_lower ho5 (below_size bl)); replace HB := hs HB hb; clear hb ho5))
   go_loopg [4] k (fun kq v4 w' => ∃ (x3_1 : List Int) (x4_1 : Int), v4 = .int .i64 x4_1 ∧ Aside0 (laws_toIntS.l0 kq l0 x3_1 x4_1 = some r) ∧ Aside0 (kq ≤ k) ∧ Aside0 (Kd.R (Kd.int .i64) 3 w' w.heap.size (fun _ => True) v214 x3_1) ∧ Aside0 (Below w.heap.size w w'))
   case atStart => exact ⟨(y213), (0), (by first | rfl | (simp; done) | (simp [*]; done)), H', ⟨Nat.le_refl _⟩, ⟨by (with_reducible repeat (first | apply Kd.R_alloc | apply Kd.R_drewN | apply Kd.R_drew)); exact HO215.out⟩, ⟨bl⟩⟩
   case round =>
    clear H'
    obtain ⟨x3_1, x4_1, rfl, HA, HK1, HO_3, HB⟩ := hrel
    cases gk with
    | zero => exact absurd HA.out (by simp [laws_toIntS.l0])
    | succ k1 =>
     have H := HA.out
     clear HA
     simp only [laws_toIntS.l0] at H
     by_cases c6 : x4_1 < (l0.length : Int)
     ·rw [if_pos c6] at H
      have c6b0 : decide (x4_1 < (l0.length : Int)) = true := decide_eq_true c6
      clear c6
      by_cases c7 : 0 ≤ x4_1
      ·rw [if_pos c7] at H
       have c7b0 : decide (0 ≤ x4_1) = true := decide_eq_true c7
       clear c7
       by_cases c8 : x4_1 < (x3_1.length : Int)
       ·rw [if_pos c8] at H
        have c8b0 : decide (x4_1 < (x3_1.length : Int)) = true := decide_eq_true c8
        clear c8
        obtain ⟨y217, hy217⟩ : ∃ y_ : List Int, y_ = (x3_1.set (x4_1 : Int).toNat (rd l0 x4_1)) := ⟨_, rfl⟩
        replace H : (laws_toIntS.l0 k1 l0 y217 (wrap64 (x4_1 + 1))) = some r := by first | (rw [hy217]; with_reducible exact H) | (have H2_ := (Option.bind_some _ _).symm.trans H; rw [hy217]; with_reducible exact H2_) | (have H2_ := (Option.bind_some _ _).symm.trans H; with_reducible exact H2_) | with_reducible exact H | (rw [hy217]; exact H) | exact H
        have Ny217 := Aside0.mk hy217
        clear hy217
        have H' := Aside0.mk H
        clear H
        have p216 : 0 ≤ (x4_1 : Int) := od
        have q216 : x4_1 < (l0.length : Int) := od
        obtain ⟨ad216, e216, hx216_0⟩ := Kd.at_int HR0.out x4_1 p216 q216
        cases e216
        replace hx216_0 := hc HB hx216_0
        replace p216 := eq_true p216
        replace q216 := eq_true q216
        have p9 : 0 ≤ (x4_1 : Int) := od
        have q9 : (x4_1 : Int) < ((x3_1.length : Int) : Int) := od
        obtain ⟨go9, co9, eo9, gb9, gl9, cl9, HG9⟩ := Kd.R_form HO_3.out (by omega)
        (first | cases eo9 | (injection eo9 with ea_ en_ ec_; (first | subst ea_ | (injection ea_ with ea_; subst ea_)); subst ec_; clear en_))
        have GB9 := Aside0.mk gb9
        have GG9 := Aside0.mk HG9
        clear gb9 gl9 HG9
        obtain ⟨hx9_0, hf9_0⟩ := Kd.R_celln 0 HO_3.out (x4_1 : Int) p9 q9
        replace p9 := eq_true p9
        replace q9 := eq_true q9
        have HP10 := Kd.R_putg HO_3.out (x4_1 : Int) (rd l0 x4_1)
        go_wp2_with (first | ((with_reducible refine gate_store (t := 3) (p := 20) rfl ?_); refine store_event (t := 3) (p := 20) (v := ?vo_w11) (w1 := (wr.setCell ⟨go9, (x4_1 : Int).toNat, none⟩ (.int .i64 (rd l0 x4_1)))) ?hg ?ho ?hn ?hr ?_; (case ho => rfl); (case hg => rfl); (case hn => rfl); (case hr => first | (go_simp; done) | (go_simp; rfl)); intro w11 hw; have hg : wr.grownBy w11 (some go9) := (by rw [hw]; exact HP10.2); have hp_ : Kd.R (Kd.int .i64) 3 w11 w.heap.size (fun _ => True) (.slice (some ⟨go9, 0, none⟩) x3_1.length co9) y217 := (by rw [hw, Ny217.out]; exact HP10.1); clear HP10; replace HO_3 := Aside0.mk (hp_); replace HB := Aside0.mk ((by rw [hw]; exact below_set (HB.out) GB9.out : Below w.heap.size w w11)); clear hg hw hp_))
        go_roundg k1
        case measure => have := HK1.out; omega
        case rel => exact ⟨(y217), (wrap64 (x4_1 + 1)), (by first | rfl | (simp; done) | (simp [*]; done)), H', ⟨by have := HK1.out; omega⟩, ⟨by (with_reducible repeat (first | apply Kd.R_alloc | apply Kd.R_drewN | apply Kd.R_drew)); exact HO_3.out⟩, ⟨bl⟩⟩
       ·rw [if_neg c8] at H
        exact absurd H (by simp)
      ·rw [if_neg c7] at H
       exact absurd H (by simp)
     ·rw [if_neg c6] at H
      have c6b0 : decide (x4_1 < (l0.length : Int)) = false := decide_eq_false c6
      clear c6
      obtain rfl := Option.some.inj H; clear H
      go_wp2
      go_ret
      exact ⟨_, by first | rfl | (simp [errW_none, errW_some] <;> rfl) | (simp [*, errW_none, errW_some] <;> rfl), by (with_reducible repeat (first | apply Kd.R_alloc | apply Kd.R_drewN | apply Kd.R_drew)); exact HO_3.out, bl⟩
  ·rw [if_neg c3] at H
   exact absurd H (by simp)
 ·rw [if_neg c2] at H
  exact absurd H (by simp)
end Go.Proofs.Ytedodaifpekahaa.P

end
section

namespace Go.Proofs.Ytedodaifpekahaa.P
open Go.RowKit Go.Proofs.YtedodaifpekahaaW.PrintWords Go.Proofs.YtedodaifpekahaaW.PrintLast Go.Proofs.YtedodaifpekahaaW.PrintMore
attribute [local go_sem] max2_int min2_int max_two min_two max_three min_three max_four min_four
set_option linter.unusedVariables false
set_option linter.unusedSimpArgs false
set_option maxHeartbeats 8000000 in
set_option maxRecDepth 100000 in
theorem laws_toClass.calls (k : Nat) (a0_0 : Int) (A0_1 : Option Addr) (c0_1 : Nat) (l0_1 : List Int) (r1 : Int) (r2 : List Int) (w : World) (hr0_1 : Kd.C (Kd.int .i64) w A0_1 l0_1.length l0_1) (hc0_1 : l0_1.length ≤ c0_1) (h : laws_toClass.f k a0_0 l0_1 = some (r1, r2)) :
  Calls Try.prog 40 #[.agg #[.int .i64 a0_0, .slice A0_1 l0_1.length c0_1]] w fun e w' => ∃ v1_ : Value, e = .returned (.agg #[.int .i64 r1, v1_]) ∧ Kd.R (Kd.int .i64) 3 w' w.heap.size (fun _ => True) v1_ r2 ∧ Below w.heap.size w w' := by
 have hu58 := Try.underlying58
 have hu76 := Try.underlying76
 have HR0_1 := Aside0.mk hr0_1
 have HC0_1 := Aside0.mk hc0_1
 clear hr0_1 hc0_1
 have HB := Aside0.mk (Below.refl w.heap.size w)
 have H : ((laws_toIntS.f k l0_1).bind fun t221 => (some (a0_0, t221))) = some (r1, r2) := h
 clear h
 obtain ⟨t221, A2, H⟩ := ob H
 simp only [Option.some.injEq, Prod.mk.injEq] at H
 obtain ⟨rfl, rfl⟩ := H
 go_enter Try.func40, Try.ntmps40
 go_wp2_with (first | ((with_reducible refine gd 1 rfl ?_); refine bx 1 #[.int .i64 a0_0, .slice A0_1 l0_1.length c0_1] 58 ?_; intro gb218 hg w3 hbox hb; have BK218 := Aside0.mk hbox; have GW218 := hz HB hg; have GE218 := hz HB hg; replace HB := hs HB hb; clear hb hbox hg) | ((with_reducible refine gd 2 rfl ?_); refine bx 2 #[.int .i64 0, .slice none 0 0] 76 ?_; intro gb219 hg w4 hbox hb; have BK219 := Aside0.mk hbox; have GW219 := hz HB hg; have GE219 := hz HB hg; have NB218_219 := nl BK218 hg; have NB219_218 := ng BK218 hg; replace BK218 := kb BK218 hb; replace HB := hs HB hb; clear hb hbox hg) | ((with_reducible refine gd 3 rfl ?_); refine bx 3 #[.int .i64 0, .slice none 0 0] 76 ?_; intro gb220 hg w5 hbox hb; have BK220 := Aside0.mk hbox; have GW220 := hz HB hg; have GE220 := hz HB hg; have NB218_220 := nl BK218 hg; have NB220_218 := ng BK218 hg; have NB219_220 := nl BK219 hg; have NB220_219 := ng BK219 hg; replace BK218 := kb BK218 hb; replace BK219 := kb BK219 hb; replace HB := hs HB hb; clear hb hbox hg; have hnb6 := NB218_219.out; have hnc6 := NB219_218.out; have hnb7 := NB218_220.out; have hnc7 := NB220_218.out; obtain ⟨_,_,_,_⟩ := cf2 BK218; have hnb9 := NB220_219.out; have hnc9 := NB219_220.out; obtain ⟨_,_,_,_⟩ := cf2 BK220) | ((with_reducible refine gc 58 rfl ?_); refine gl (some 9) Try.func58 #[.slice A0_1 l0_1.length c0_1] rfl ?_; (with_reducible refine (laws_toIntS.calls k _ _ l0_1 t221 _ ?side1 ?side2 A2.out).mono ?_); (case side1 => exact cb HR0_1.out); (case side2 => exact HC0_1.out); rintro e w11 ⟨v222, rfl, ho0, hb⟩; refine ⟨_, rfl, ?_⟩; have HO223 := Aside0.mk (Kd.R_lower ho0 (below_size bl)); replace BK218 := kq BK218 hb; replace BK219 := kq BK219 hb; replace BK220 := kp gb220 #[.int .i64 a0_0, .slice none 0 0] 76 hb; replace HB := hs HB hb; (try clear hb); (try clear ho0); obtain ⟨Ao12, co12, eo12⟩ := Kd.R_slice HO223.out; subst eo12; obtain ⟨_,_,_,_⟩ := cf2 BK220; obtain ⟨_,_,_,_⟩ := cf2 BK219))
 refine bodyPost_ret (results_cell_row rfl _ _ gb219 76 #[.int .i64 a0_0, .slice Ao12 t221.length co12] (0, 0) _ rfl (by (with_reducible repeat (first | refine blk_drewN ?_ _ | refine blk_drew ?_ | refine blk_alloc ?_ _)); refine blk_put (cs := #[.int .i64 a0_0, .slice none 0 0]) ?_ 1 _ rfl; (with_reducible repeat (first | refine blk_drewN ?_ _ | refine blk_drew ?_ | refine blk_alloc ?_ _)); refine blk_put (cs := #[.int .i64 0, .slice none 0 0]) ?_ 0 _ rfl; (with_reducible repeat (first | refine blk_drewN ?_ _ | refine blk_drew ?_ | refine blk_alloc ?_ _)); refine blk_far ?_ NB219_220.out _; (with_reducible repeat (first | refine blk_drewN ?_ _ | refine blk_drew ?_ | refine blk_alloc ?_ _)); exact BK219.out) Try.underlying76 rfl (by kernel_rfl)) rfl ?_
 exact ⟨_, by first | rfl | (simp [errW_none, errW_some] <;> rfl) | (simp [*, errW_none, errW_some] <;> rfl), by (with_reducible repeat (first | apply Kd.R_alloc | apply Kd.R_drewN | apply Kd.R_drew)); exact Kd.R_mono (Kd.R_far (p := ⟨gb219, 1, none⟩) (Kd.R_far (p := ⟨gb219, 0, none⟩) (Kd.R_far (p := ⟨gb220, 1, none⟩) (Kd.R_types (Kd.R_types HO223.out BK220.out (by decide)) BK219.out (by decide)) (fun _ hk => hk.1.2) (.slice Ao12 t221.length co12)) (fun _ hk => hk.2) (.int .i64 a0_0)) (fun _ hk => hk.2) (.slice Ao12 t221.length co12)) (fun _ hk => trivial), bl⟩
end Go.Proofs.Ytedodaifpekahaa.P

end
section

namespace Go.Proofs.Ytedodaifpekahaa.P
open Go.RowKit Go.Proofs.YtedodaifpekahaaW.PrintWords Go.Proofs.YtedodaifpekahaaW.PrintLast Go.Proofs.YtedodaifpekahaaW.PrintMore
attribute [local go_sem] max2_int min2_int max_two min_two max_three min_three max_four min_four
set_option linter.unusedVariables false
set_option linter.unusedSimpArgs false
set_option maxHeartbeats 8000000 in
set_option maxRecDepth 100000 in
theorem laws_toClassS.calls (k : Nat) (A0 : Option Addr) (c0 : Nat) (l0 : List (S58)) (r : List (S76)) (w : World) (hr0 : Kd.C k58 w A0 l0.length l0) (hc0 : l0.length ≤ c0) (h : laws_toClassS.f k l0 = some r) :
  Calls Try.prog 18 #[.slice A0 l0.length c0] w fun e w' => ∃ v0_ : Value, e = .returned (v0_) ∧ Kd.S k76 76 w' w.heap.size (fun _ => True) v0_ r ∧ Below w.heap.size w w' := by
 have hu58 := Try.underlying58
 have hu76 := Try.underlying76
 have HR0 := Aside0.mk hr0
 have HC0 := Aside0.mk hc0
 clear hr0 hc0
 have HB := Aside0.mk (Below.refl w.heap.size w)
 have H : (if 0 ≤ (l0.length : Int) then (if ((l0.length : Int) : Int).toNat ≤ 8796093022208 then (laws_toClassS.l0 k l0 (List.replicate ((l0.length : Int) : Int).toNat z76) 0) else (none)) else (none)) = some r := h
 clear h
 by_cases c2 : 0 ≤ (l0.length : Int)
 ·rw [if_pos c2] at H
  have c2b0 := eq_true c2
  have c2b1 : decide (0 ≤ (l0.length : Int)) = true := decide_eq_true c2
  clear c2
  by_cases c3 : ((l0.length : Int) : Int).toNat ≤ 8796093022208
  ·rw [if_pos c3] at H
   have c3b0 := eq_true c3
   have c3b1 : decide (((l0.length : Int) : Int).toNat ≤ 8796093022208) = true := decide_eq_true c3
   clear c3
   obtain ⟨y224, hy224⟩ : ∃ y_ : List (S76), y_ = (List.replicate ((l0.length : Int) : Int).toNat z76) := ⟨_, rfl⟩
   replace H : (laws_toClassS.l0 k l0 y224 0) = some r := by first | (rw [hy224]; with_reducible exact H) | (have H2_ := (Option.bind_some _ _).symm.trans H; rw [hy224]; with_reducible exact H2_) | (have H2_ := (Option.bind_some _ _).symm.trans H; with_reducible exact H2_) | with_reducible exact H | (rw [hy224]; exact H) | exact H
   have Ny224 := Aside0.mk hy224
   clear hy224
   have H' := Aside0.mk H
   clear H
   go_enter Try.func18, Try.ntmps18
   go_wp2_with (first | ((with_reducible refine gd 7 rfl ?_); refine Kd.S_make k76 _ 76 rfl (N := 7) rfl 28 _ _ rfl (l0.length : Int) rfl rfl Try.underlying28 (.agg #[(.int .i64 0), (.slice none 0 0)]) 32 info76 rfl (by decide) (by omega) z76 (ok := fun _ => True) (okp := fun _ => True) (k76_mkM _ _ _ z76 (Kd.R_nil _ _ _ _ _)) (fun _ hk => hk) trivial (of_decide_eq_true (by first | (with_reducible assumption) | assumption)) (Nat.le_trans (Nat.mul_le_mul_right _ (of_decide_eq_true (by first | (with_reducible assumption) | assumption) : (l0.length : Int).toNat ≤ 8796093022208)) (by omega)) (Below.refl _ _) (Nat.le_refl _) ?_; intro v225 w4 ho5 hb hg_ hnew_; clear hg_ hnew_; (first | rw [← Ny224.out] at ho5 | (simp only [Int.reduceToNat] at ho5; rw [← Ny224.out] at ho5)); have HO226 := Aside0.mk (Kd.S_lower ho5 (below_size bl)); replace HB := hs HB hb; clear hb ho5))
   go_loopg [4] k (fun kq v4 w' => ∃ (x3_1 : List (S76)) (x4_1 : Int), v4 = .int .i64 x4_1 ∧ Aside0 (laws_toClassS.l0 kq l0 x3_1 x4_1 = some r) ∧ Aside0 (kq ≤ k) ∧ Aside0 (Kd.S k76 76 w' w.heap.size (fun _ => True) v225 x3_1) ∧ Aside0 (Below w.heap.size w w'))
   case atStart => exact ⟨(y224), (0), (by first | rfl | (simp; done) | (simp [*]; done)), H', ⟨Nat.le_refl _⟩, ⟨by (with_reducible repeat (first | apply Kd.S_alloc | apply Kd.S_drewN | apply Kd.S_drew)); exact HO226.out⟩, ⟨bl⟩⟩
   case round =>
    clear H'
    obtain ⟨x3_1, x4_1, rfl, HA, HK1, HO_3, HB⟩ := hrel
    cases gk with
    | zero => exact absurd HA.out (by simp [laws_toClassS.l0])
    | succ k1 =>
     have H := HA.out
     clear HA
     simp only [laws_toClassS.l0] at H
     by_cases c6 : x4_1 < (l0.length : Int)
     ·rw [if_pos c6] at H
      have c6b0 : decide (x4_1 < (l0.length : Int)) = true := decide_eq_true c6
      clear c6
      by_cases c7 : 0 ≤ x4_1
      ·rw [if_pos c7] at H
       have c7b0 : decide (0 ≤ x4_1) = true := decide_eq_true c7
       clear c7
       replace H := Option.bind_eq_some_iff.mp H
       obtain ⟨⟨t228, t229⟩, A80, H⟩ := H
       replace H : (if x4_1 < (x3_1.length : Int) then (laws_toClassS.l0 k1 l0 (x3_1.set (x4_1 : Int).toNat (⟨t228, t229⟩ : S76)) (wrap64 (x4_1 + 1))) else (none)) = some r := H
       have A8 := Aside0.mk A80
       clear A80
       by_cases c9 : x4_1 < (x3_1.length : Int)
       ·rw [if_pos c9] at H
        have c9b0 : decide (x4_1 < (x3_1.length : Int)) = true := decide_eq_true c9
        clear c9
        obtain ⟨y232, hy232⟩ : ∃ y_ : List (S76), y_ = (x3_1.set (x4_1 : Int).toNat (⟨t228, t229⟩ : S76)) := ⟨_, rfl⟩
        replace H : (laws_toClassS.l0 k1 l0 y232 (wrap64 (x4_1 + 1))) = some r := by first | (rw [hy232]; with_reducible exact H) | (have H2_ := (Option.bind_some _ _).symm.trans H; rw [hy232]; with_reducible exact H2_) | (have H2_ := (Option.bind_some _ _).symm.trans H; with_reducible exact H2_) | with_reducible exact H | (rw [hy232]; exact H) | exact H
        have Ny232 := Aside0.mk hy232
        clear hy232
        have H' := Aside0.mk H
        clear H
        have p227 : 0 ≤ (x4_1 : Int) := od
        have q227 : x4_1 < (l0.length : Int) := od
        obtain ⟨ad227, A227_1, c227_1, e227, hx227_0, hx227_1, hl227_1, hi227_1⟩ := at_T58 HR0.out x4_1 p227 q227
        cases e227
        obtain ⟨hx227_0,hx227_1⟩ := hc2 HB hx227_0 hx227_1
        have HR227_1 := Aside0.mk hi227_1
        have HC227_1 := Aside0.mk hl227_1
        clear hi227_1 hl227_1
        replace p227 := eq_true p227
        replace q227 := eq_true q227
        go_wp2_with (first | ((with_reducible refine gc 40 rfl ?_); refine gl (some 20) Try.func40 #[.agg #[.int .i64 ((rd_T58 l0 x4_1).f0), .slice A227_1 ((rd_T58 l0 x4_1).f1).length c227_1]] rfl ?_; (with_reducible refine (laws_toClass.calls k1 ((rd_T58 l0 x4_1).f0) _ _ ((rd_T58 l0 x4_1).f1) t228 t229 _ ?side1 ?side2 A8.out).mono ?_); (case side1 => exact cb HR227_1.out); (case side2 => exact HC227_1.out); rintro e w11 ⟨v230, rfl, ho0, hb⟩; refine ⟨_, rfl, ?_⟩; have HO231 := Aside0.mk (Kd.R_lower ho0 (below_size bl)); replace HO_3 := Aside0.mk (Kd.S_elder' (by (with_reducible repeat (first | apply Kd.S_alloc | apply Kd.S_drewN | apply Kd.S_drew)); exact HO_3.out) (Kd.R_base ho0) hb); replace HB := hs HB hb; (try clear hb); (try clear hk); (try clear ho0); have p10 : 0 ≤ (x4_1 : Int) := od; have q10 : (x4_1 : Int) < ((x3_1.length : Int) : Int) := od; obtain ⟨go10, co10, eo10, gb10, gl10, cl10, HG10⟩ := Kd.S_form HO_3.out (by omega); (first | cases eo10 | (injection eo10 with ea_ en_ ec_; (first | subst ea_ | (injection ea_ with ea_; subst ea_)); subst ec_; clear en_)); have GB10 := Aside0.mk gb10; have GG10 := Aside0.mk HG10; clear gb10 gl10 HG10; obtain ⟨_, ce10, hcl10, hM10, hcc10, hfr10, _, _⟩ := Kd.S_elem HO_3.out z76 (x4_1 : Int) p10 q10; obtain ⟨ve10_1, rfl, ge10_1⟩ := k76_openM hM10; have hx10_0 : w11.cell? ⟨go10, (x4_1 : Int).toNat * 2, none⟩ = some (.int .i64 ((rd_T76 x3_1 x4_1).f0)) := hcc10 0 _ rfl; have hx10_1 : w11.cell? ⟨go10, (x4_1 : Int).toNat * 2 + 1, none⟩ = some (ve10_1) := hcc10 1 _ rfl; have hf10_0 : w11.frozen? ⟨go10, (x4_1 : Int).toNat * 2, none⟩ = false := hfr10 0; have hf10_1 : w11.frozen? ⟨go10, (x4_1 : Int).toNat * 2 + 1, none⟩ = false := hfr10 1; clear hcl10 hcc10 hfr10 hM10; replace p10 := eq_true p10; replace q10 := eq_true q10; have n_ := Aside0.mk (Kd.S_mono (ok' := (fun k_ => some k_ ≠ (v230 : Value).ownBlock)) HO_3.out (fun k_ hk => hk.2)); clear HO_3; have HO_3 := n_; clear n_; have HX12 := Aside0.mk (show Kd.S k76 76 w11 w.heap.size (fun k_ => ((fun _ => True)) k_ ∧ ¬ ((fun k_ => some k_ = (v230 : Value).ownBlock)) k_) (.slice (some ⟨go10, 0, none⟩) x3_1.length co10) x3_1 from (by (with_reducible repeat (first | apply Kd.S_alloc | apply Kd.S_drewN | apply Kd.S_drew)); exact Kd.S_mono HO_3.out (fun k_ hk => ⟨trivial, fun e_ => hk e_⟩))); obtain ⟨oki12, ce12, hcl12, hM12, hcc12, hfr12, hoki12, hH12⟩ := Kd.S_elem HX12.out z76 (x4_1 : Int) (of_decide_eq_true (by first | (with_reducible assumption) | assumption)) (by have h_ : (x4_1 : Int) < ((x3_1.length : Int) : Int) := of_decide_eq_true (by first | (with_reducible assumption) | assumption); first | exact h_ | (have e_ := (Kd.S_reads' HO_3.out).1; omega) | simpa using h_); obtain ⟨ve12_1, rfl, ge12_1⟩ := k76_openM hM12; have HP12 := Kd.S_seg hH12 (of_decide_eq_true (by first | (with_reducible assumption) | assumption)) (by have h_ : (x4_1 : Int) < ((x3_1.length : Int) : Int) := of_decide_eq_true (by first | (with_reducible assumption) | assumption); first | exact h_ | (have e_ := (Kd.S_reads' HO_3.out).1; omega) | simpa using h_) (seg := [.int .i64 t228, v230]) (j := 0) (show 2 ≤ 2 from by decide) (x' := (⟨t228, t229⟩ : S76)) (k76_mkM _ _ _ (⟨t228, t229⟩ : S76) (Kd.R_mono (Kd.R_tight rfl (Kd.R_mono (ok' := fun k_ => ((fun _ => True)) k_ ∧ k_ ≠ go10) (Kd.R_apart' (HO231.out) (Kd.S_typed HO_3.out) (by decide)) (fun k_ hk => ⟨trivial, fun e_ => (hk.2) (by rw [e_]; rfl)⟩))) (fun _ h_ => Or.inr (h_)))) (fun _ hk => hk) (fun k_ hk_ => ((Kd.R_mono (ok' := fun k_ => ((fun _ => True)) k_ ∧ k_ ≠ go10) (Kd.R_apart' (HO231.out) (Kd.S_typed HO_3.out) (by decide)) (fun k_ hk => ⟨trivial, fun e_ => (hk.2) (by rw [e_]; rfl)⟩))).1 k_ hk_.symm); have hx12_0 := hcc12 0 _ rfl; (try simp only [show (k76).sz = 2 from rfl, Nat.mul_one, Nat.add_zero] at hx12_0); have hf12_0 := hfr12 0; (try simp only [show (k76).sz = 2 from rfl, Nat.mul_one, Nat.add_zero] at hf12_0); have hx12_1 := hcc12 1 _ rfl; (try simp only [show (k76).sz = 2 from rfl, Nat.mul_one, Nat.add_zero] at hx12_1); have hf12_1 := hfr12 1; (try simp only [show (k76).sz = 2 from rfl, Nat.mul_one, Nat.add_zero] at hf12_1); clear hcl12 hcc12 hfr12 hM12 hoki12 hH12) | ((with_reducible refine gate_store (t := 76) (p := 21) rfl ?_); refine store_event (t := 76) (p := 21) (v := ?vo_w13) (w1 := ((w11.setCell ⟨go10, (x4_1 : Int).toNat * 2, none⟩ (.int .i64 t228)).setCell ⟨go10, (x4_1 : Int).toNat * 2 + 1, none⟩ (v230))) ?hg ?ho ?hn ?hr ?_; (case ho => rfl); (case hg => rfl); (case hn => rfl); (case hr => first | (go_simp; done) | (go_simp; rfl) | (obtain ⟨_, _, rfl⟩ := Kd.R_slice HO231.out; first | (go_simp; done) | (go_simp; rfl))); intro w13 hw; have hg : w11.grownBy w13 (some go10) := (by rw [hw]; exact HP12.2); have hp_ : Kd.S k76 76 w13 w.heap.size (fun _ => True) (.slice (some ⟨go10, 0, none⟩) x3_1.length co10) y232 := (by rw [hw, Ny232.out]; exact HP12.1); clear HP12; have n0_ := Aside0.mk (hp_); have n1_ := Aside0.mk ((by rw [hw]; exact below_set (below_set (HB.out) GB10.out) GB10.out : Below w.heap.size w w13)); clear HO_3; clear HB; clear HO231; have HO_3 := n0_; have HB := n1_; clear n0_ n1_; clear hg hw hp_))
        go_roundg k1
        case measure => have := HK1.out; omega
        case rel => exact ⟨(y232), (wrap64 (x4_1 + 1)), (by first | rfl | (simp; done) | (simp [*]; done)), H', ⟨by have := HK1.out; omega⟩, ⟨by (with_reducible repeat (first | apply Kd.S_alloc | apply Kd.S_drewN | apply Kd.S_drew)); exact HO_3.out⟩, ⟨bl⟩⟩
       ·rw [if_neg c9] at H
        exact absurd H (by simp)
      ·rw [if_neg c7] at H
       exact absurd H (by simp)
     ·rw [if_neg c6] at H
      have c6b0 : decide (x4_1 < (l0.length : Int)) = false := decide_eq_false c6
      clear c6
      obtain rfl := Option.some.inj H; clear H
      go_wp2
      go_ret
      exact ⟨_, by first | rfl | (simp [errW_none, errW_some] <;> rfl) | (simp [*, errW_none, errW_some] <;> rfl), by (with_reducible repeat (first | apply Kd.S_alloc | apply Kd.S_drewN | apply Kd.S_drew)); exact HO_3.out, bl⟩
  ·rw [if_neg c3] at H
   exact absurd H (by simp)
 ·rw [if_neg c2] at H
  exact absurd H (by simp)
end Go.Proofs.Ytedodaifpekahaa.P

end
section

namespace Go.Proofs.Ytedodaifpekahaa.P
open Go.RowKit Go.Proofs.YtedodaifpekahaaW.PrintWords Go.Proofs.YtedodaifpekahaaW.PrintLast Go.Proofs.YtedodaifpekahaaW.PrintMore
attribute [local go_sem] max2_int min2_int max_two min_two max_three min_three max_four min_four
set_option linter.unusedVariables false
set_option linter.unusedSimpArgs false
set_option maxHeartbeats 8000000 in
set_option maxRecDepth 100000 in
theorem laws_toIns.calls (a0_0 : Int) (a0_1 : Int) (a0_2 : Int) (r1 : Int) (r2 : Int) (r3 : Int) (w : World) (h : laws_toIns.f a0_0 a0_1 a0_2 = some (r1, r2, r3)) :
  Calls Try.prog 70 #[.agg #[.int .i64 a0_0, .int .i64 a0_1, .int .i64 a0_2]] w fun e w' => e = .returned (.agg #[.int .i64 r1, .int .i64 r2, .int .i64 r3]) ∧ Below w.heap.size w w' := by
 have hu113 := Try.underlying113
 have hu67 := Try.underlying67
 have HB := Aside0.mk (Below.refl w.heap.size w)
 have H : (some (a0_0, a0_1, a0_2)) = some (r1, r2, r3) := h
 clear h
 simp only [Option.some.injEq, Prod.mk.injEq] at H
 obtain ⟨rfl, rfl, rfl⟩ := H
 go_enter Try.func70, Try.ntmps70
 go_wp2_with (first | ((with_reducible refine gd 1 rfl ?_); refine bx 1 #[.int .i64 a0_0, .int .i64 a0_1, .int .i64 a0_2] 113 ?_; intro gb233 hg w2 hbox hb; have BK233 := Aside0.mk hbox; have GW233 := hz HB hg; have GE233 := hz HB hg; replace HB := hs HB hb; clear hb hbox hg) | ((with_reducible refine gd 2 rfl ?_); refine bx 2 #[.int .i64 0, .int .i64 0, .int .i64 0] 67 ?_; intro gb234 hg w3 hbox hb; have BK234 := Aside0.mk hbox; have GW234 := hz HB hg; have GE234 := hz HB hg; have NB233_234 := nl BK233 hg; have NB234_233 := ng BK233 hg; replace BK233 := kb BK233 hb; replace HB := hs HB hb; clear hb hbox hg) | ((with_reducible refine gd 3 rfl ?_); refine bx 3 #[.int .i64 0, .int .i64 0, .int .i64 0] 67 ?_; intro gb235 hg w4 hbox hb; have BK235 := Aside0.mk hbox; have GW235 := hz HB hg; have GE235 := hz HB hg; have NB233_235 := nl BK233 hg; have NB235_233 := ng BK233 hg; have NB234_235 := nl BK234 hg; have NB235_234 := ng BK234 hg; replace BK233 := kb BK233 hb; replace BK234 := kb BK234 hb; replace HB := hs HB hb; clear hb hbox hg; have hnb5 := NB233_234.out; have hnc5 := NB234_233.out; have hnb6 := NB233_235.out; have hnc6 := NB235_233.out; obtain ⟨_,_,_,_,_,_⟩ := cf3 BK233; have hnb8 := NB235_234.out; have hnc8 := NB234_235.out; obtain ⟨_,_,_,_,_,_⟩ := cf3 BK235; obtain ⟨_,_,_,_,_,_⟩ := cf3 BK234))
 refine bodyPost_ret (results_cell_row rfl _ _ gb234 67 #[.int .i64 a0_0, .int .i64 a0_1, .int .i64 a0_2] (0, 0) _ rfl (by (with_reducible repeat (first | refine blk_drewN ?_ _ | refine blk_drew ?_ | refine blk_alloc ?_ _)); refine blk_put (cs := #[.int .i64 a0_0, .int .i64 a0_1, .int .i64 0]) ?_ 2 _ rfl; (with_reducible repeat (first | refine blk_drewN ?_ _ | refine blk_drew ?_ | refine blk_alloc ?_ _)); refine blk_put (cs := #[.int .i64 a0_0, .int .i64 0, .int .i64 0]) ?_ 1 _ rfl; (with_reducible repeat (first | refine blk_drewN ?_ _ | refine blk_drew ?_ | refine blk_alloc ?_ _)); refine blk_put (cs := #[.int .i64 0, .int .i64 0, .int .i64 0]) ?_ 0 _ rfl; (with_reducible repeat (first | refine blk_drewN ?_ _ | refine blk_drew ?_ | refine blk_alloc ?_ _)); refine blk_far ?_ NB234_235.out _; (with_reducible repeat (first | refine blk_drewN ?_ _ | refine blk_drew ?_ | refine blk_alloc ?_ _)); refine blk_far ?_ NB234_235.out _; (with_reducible repeat (first | refine blk_drewN ?_ _ | refine blk_drew ?_ | refine blk_alloc ?_ _)); refine blk_far ?_ NB234_235.out _; (with_reducible repeat (first | refine blk_drewN ?_ _ | refine blk_drew ?_ | refine blk_alloc ?_ _)); exact BK234.out) Try.underlying67 rfl (by kernel_rfl)) rfl ?_
 exact fin
end Go.Proofs.Ytedodaifpekahaa.P

end
section

namespace Go.Proofs.Ytedodaifpekahaa.P
open Go.RowKit Go.Proofs.YtedodaifpekahaaW.PrintWords Go.Proofs.YtedodaifpekahaaW.PrintLast Go.Proofs.YtedodaifpekahaaW.PrintMore
attribute [local go_sem] max2_int min2_int max_two min_two max_three min_three max_four min_four
set_option linter.unusedVariables false
set_option linter.unusedSimpArgs false
set_option maxHeartbeats 8000000 in
set_option maxRecDepth 100000 in
theorem laws_toInsS.calls (k : Nat) (A0 : Option Addr) (c0 : Nat) (l0 : List (S113)) (r : List (S67)) (w : World) (hr0 : Kd.C k113 w A0 l0.length l0) (hc0 : l0.length ≤ c0) (h : laws_toInsS.f k l0 = some r) :
  Calls Try.prog 59 #[.slice A0 l0.length c0] w fun e w' => ∃ v0_ : Value, e = .returned (v0_) ∧ Kd.R k67 67 w' w.heap.size (fun _ => True) v0_ r ∧ Below w.heap.size w w' := by
 have hu113 := Try.underlying113
 have hu67 := Try.underlying67
 have HR0 := Aside0.mk hr0
 have HC0 := Aside0.mk hc0
 clear hr0 hc0
 have HB := Aside0.mk (Below.refl w.heap.size w)
 have H : (if 0 ≤ (l0.length : Int) then (if ((l0.length : Int) : Int).toNat ≤ 11728124029610 then (laws_toInsS.l0 k l0 (List.replicate ((l0.length : Int) : Int).toNat z67) 0) else (none)) else (none)) = some r := h
 clear h
 by_cases c2 : 0 ≤ (l0.length : Int)
 ·rw [if_pos c2] at H
  have c2b0 := eq_true c2
  have c2b1 : decide (0 ≤ (l0.length : Int)) = true := decide_eq_true c2
  clear c2
  by_cases c3 : ((l0.length : Int) : Int).toNat ≤ 11728124029610
  ·rw [if_pos c3] at H
   have c3b0 := eq_true c3
   have c3b1 : decide (((l0.length : Int) : Int).toNat ≤ 11728124029610) = true := decide_eq_true c3
   clear c3
   obtain ⟨y236, hy236⟩ : ∃ y_ : List (S67), y_ = (List.replicate ((l0.length : Int) : Int).toNat z67) := ⟨_, rfl⟩
   replace H : (laws_toInsS.l0 k l0 y236 0) = some r := by first | (rw [hy236]; with_reducible exact H) | (have H2_ := (Option.bind_some _ _).symm.trans H; rw [hy236]; with_reducible exact H2_) | (have H2_ := (Option.bind_some _ _).symm.trans H; with_reducible exact H2_) | with_reducible exact H | (rw [hy236]; exact H) | exact H
   have Ny236 := Aside0.mk hy236
   clear hy236
   have H' := Aside0.mk H
   clear H
   go_enter Try.func59, Try.ntmps59
   go_wp2_with (first | ((with_reducible refine gd 7 rfl ?_); refine Kd.R_make k67 _ 67 rfl (N := 7) rfl 42 _ _ rfl (l0.length : Int) rfl rfl Try.underlying42 (.agg #[(.int .i64 0), (.int .i64 0), (.int .i64 0)]) 24 info67 rfl (by decide) (by omega) z67 (ok := fun _ => True) (okp := fun _ => True) (k67_mkM _ _ _ z67 ) (fun _ hk => hk) trivial (of_decide_eq_true (by first | (with_reducible assumption) | assumption)) (Nat.le_trans (Nat.mul_le_mul_right _ (of_decide_eq_true (by first | (with_reducible assumption) | assumption) : (l0.length : Int).toNat ≤ 11728124029610)) (by omega)) (Below.refl _ _) (Nat.le_refl _) ?_; intro v237 w4 ho5 hb hg_ hnew_; clear hg_ hnew_; (first | rw [← Ny236.out] at ho5 | (simp only [Int.reduceToNat] at ho5; rw [← Ny236.out] at ho5)); have HO238 := Aside0.mk (Kd.R_lower ho5 (below_size bl)); replace HB := hs HB hb; clear hb ho5))
   go_loopg [4] k (fun kq v4 w' => ∃ (x3_1 : List (S67)) (x4_1 : Int), v4 = .int .i64 x4_1 ∧ Aside0 (laws_toInsS.l0 kq l0 x3_1 x4_1 = some r) ∧ Aside0 (kq ≤ k) ∧ Aside0 (Kd.R k67 67 w' w.heap.size (fun _ => True) v237 x3_1) ∧ Aside0 (Below w.heap.size w w'))
   case atStart => exact ⟨(y236), (0), (by first | rfl | (simp; done) | (simp [*]; done)), H', ⟨Nat.le_refl _⟩, ⟨by (with_reducible repeat (first | apply Kd.R_alloc | apply Kd.R_drewN | apply Kd.R_drew)); exact HO238.out⟩, ⟨bl⟩⟩
   case round =>
    clear H'
    obtain ⟨x3_1, x4_1, rfl, HA, HK1, HO_3, HB⟩ := hrel
    cases gk with
    | zero => exact absurd HA.out (by simp [laws_toInsS.l0])
    | succ k1 =>
     have H := HA.out
     clear HA
     simp only [laws_toInsS.l0] at H
     by_cases c6 : x4_1 < (l0.length : Int)
     ·rw [if_pos c6] at H
      have c6b0 : decide (x4_1 < (l0.length : Int)) = true := decide_eq_true c6
      clear c6
      by_cases c7 : 0 ≤ x4_1
      ·rw [if_pos c7] at H
       have c7b0 : decide (0 ≤ x4_1) = true := decide_eq_true c7
       clear c7
       replace H := Option.bind_eq_some_iff.mp H
       obtain ⟨⟨t240, t241, t242⟩, A80, H⟩ := H
       replace H : (if x4_1 < (x3_1.length : Int) then (laws_toInsS.l0 k1 l0 (x3_1.set (x4_1 : Int).toNat (⟨t240, t241, t242⟩ : S67)) (wrap64 (x4_1 + 1))) else (none)) = some r := H
       have A8 := Aside0.mk A80
       clear A80
       by_cases c9 : x4_1 < (x3_1.length : Int)
       ·rw [if_pos c9] at H
        have c9b0 : decide (x4_1 < (x3_1.length : Int)) = true := decide_eq_true c9
        clear c9
        obtain ⟨y243, hy243⟩ : ∃ y_ : List (S67), y_ = (x3_1.set (x4_1 : Int).toNat (⟨t240, t241, t242⟩ : S67)) := ⟨_, rfl⟩
        replace H : (laws_toInsS.l0 k1 l0 y243 (wrap64 (x4_1 + 1))) = some r := by first | (rw [hy243]; with_reducible exact H) | (have H2_ := (Option.bind_some _ _).symm.trans H; rw [hy243]; with_reducible exact H2_) | (have H2_ := (Option.bind_some _ _).symm.trans H; with_reducible exact H2_) | with_reducible exact H | (rw [hy243]; exact H) | exact H
        have Ny243 := Aside0.mk hy243
        clear hy243
        have H' := Aside0.mk H
        clear H
        have p239 : 0 ≤ (x4_1 : Int) := od
        have q239 : x4_1 < (l0.length : Int) := od
        obtain ⟨ad239, e239, hx239_0, hx239_1, hx239_2⟩ := at_T113 HR0.out x4_1 p239 q239
        cases e239
        obtain ⟨hx239_0,hx239_1,hx239_2⟩ := hc3 HB hx239_0 hx239_1 hx239_2
        replace p239 := eq_true p239
        replace q239 := eq_true q239
        go_wp2_with (first | ((with_reducible refine gc 70 rfl ?_); refine gl (some 20) Try.func70 #[.agg #[.int .i64 ((rd_T113 l0 x4_1).f0), .int .i64 ((rd_T113 l0 x4_1).f1), .int .i64 ((rd_T113 l0 x4_1).f2)]] rfl ?_; (with_reducible refine (laws_toIns.calls ((rd_T113 l0 x4_1).f0) ((rd_T113 l0 x4_1).f1) ((rd_T113 l0 x4_1).f2) t240 t241 t242 _ A8.out).mono ?_); rintro e w11 ⟨rfl, hb⟩; refine ⟨_, rfl, ?_⟩; replace HO_3 := Aside0.mk (Kd.R_below (by (with_reducible repeat (first | apply Kd.R_alloc | apply Kd.R_drewN | apply Kd.R_drew)); exact HO_3.out) hb); replace HB := hs HB hb; (try clear hb); (try clear hk); have p10 : 0 ≤ (x4_1 : Int) := od; have q10 : (x4_1 : Int) < ((x3_1.length : Int) : Int) := od; obtain ⟨go10, co10, eo10, gb10, gl10, cl10, HG10⟩ := Kd.R_form HO_3.out (by omega); (first | cases eo10 | (injection eo10 with ea_ en_ ec_; (first | subst ea_ | (injection ea_ with ea_; subst ea_)); subst ec_; clear en_)); have GB10 := Aside0.mk gb10; have GG10 := Aside0.mk HG10; clear gb10 gl10 HG10; obtain ⟨ce10, hcl10, hM10, hcc10, hfr10⟩ := Kd.R_elem HO_3.out z67 (x4_1 : Int) p10 q10; obtain rfl := k67_openM hM10; have hx10_0 : w11.cell? ⟨go10, (x4_1 : Int).toNat * 3, none⟩ = some (.int .i64 ((rd_T67 x3_1 x4_1).f0)) := hcc10 0 _ rfl; have hx10_1 : w11.cell? ⟨go10, (x4_1 : Int).toNat * 3 + 1, none⟩ = some (.int .i64 ((rd_T67 x3_1 x4_1).f1)) := hcc10 1 _ rfl; have hx10_2 : w11.cell? ⟨go10, (x4_1 : Int).toNat * 3 + 2, none⟩ = some (.int .i64 ((rd_T67 x3_1 x4_1).f2)) := hcc10 2 _ rfl; have hf10_0 : w11.frozen? ⟨go10, (x4_1 : Int).toNat * 3, none⟩ = false := hfr10 0; have hf10_1 : w11.frozen? ⟨go10, (x4_1 : Int).toNat * 3 + 1, none⟩ = false := hfr10 1; have hf10_2 : w11.frozen? ⟨go10, (x4_1 : Int).toNat * 3 + 2, none⟩ = false := hfr10 2; clear hcl10 hcc10 hfr10 hM10; replace p10 := eq_true p10; replace q10 := eq_true q10; have HX12 := Aside0.mk (show Kd.R k67 67 w11 w.heap.size (fun _ => True) (.slice (some ⟨go10, 0, none⟩) x3_1.length co10) x3_1 from (by (with_reducible repeat (first | apply Kd.R_alloc | apply Kd.R_drewN | apply Kd.R_drew)); exact HO_3.out)); obtain ⟨ce12, hcl12, hM12, hcc12, hfr12⟩ := Kd.R_elem HX12.out z67 (x4_1 : Int) (of_decide_eq_true (by first | (with_reducible assumption) | assumption)) (by have h_ : (x4_1 : Int) < ((x3_1.length : Int) : Int) := of_decide_eq_true (by first | (with_reducible assumption) | assumption); first | exact h_ | (have e_ := (Kd.R_reads' HO_3.out).1; omega) | simpa using h_); obtain rfl := k67_openM hM12; have HP12 := Kd.R_seg HX12.out (x4_1 : Int) (of_decide_eq_true (by first | (with_reducible assumption) | assumption)) (by have h_ : (x4_1 : Int) < ((x3_1.length : Int) : Int) := of_decide_eq_true (by first | (with_reducible assumption) | assumption); first | exact h_ | (have e_ := (Kd.R_reads' HO_3.out).1; omega) | simpa using h_) (seg := [.int .i64 t240, .int .i64 t241, .int .i64 t242]) (j := 0) hcl12 hcc12 (show 3 ≤ 3 from by decide) (x' := (⟨t240, t241, t242⟩ : S67)) (k67_mkM _ _ _ (⟨t240, t241, t242⟩ : S67) ) (fun _ hk => hk); have hx12_0 := hcc12 0 _ rfl; (try simp only [show (k67).sz = 3 from rfl, Nat.mul_one, Nat.add_zero] at hx12_0); have hf12_0 := hfr12 0; (try simp only [show (k67).sz = 3 from rfl, Nat.mul_one, Nat.add_zero] at hf12_0); have hx12_1 := hcc12 1 _ rfl; (try simp only [show (k67).sz = 3 from rfl, Nat.mul_one, Nat.add_zero] at hx12_1); have hf12_1 := hfr12 1; (try simp only [show (k67).sz = 3 from rfl, Nat.mul_one, Nat.add_zero] at hf12_1); have hx12_2 := hcc12 2 _ rfl; (try simp only [show (k67).sz = 3 from rfl, Nat.mul_one, Nat.add_zero] at hx12_2); have hf12_2 := hfr12 2; (try simp only [show (k67).sz = 3 from rfl, Nat.mul_one, Nat.add_zero] at hf12_2); clear hcl12 hcc12 hfr12 hM12) | ((with_reducible refine gate_store (t := 67) (p := 21) rfl ?_); refine store_event (t := 67) (p := 21) (v := ?vo_w13) (w1 := (((w11.setCell ⟨go10, (x4_1 : Int).toNat * 3, none⟩ (.int .i64 t240)).setCell ⟨go10, (x4_1 : Int).toNat * 3 + 1, none⟩ (.int .i64 t241)).setCell ⟨go10, (x4_1 : Int).toNat * 3 + 2, none⟩ (.int .i64 t242))) ?hg ?ho ?hn ?hr ?_; (case ho => rfl); (case hg => rfl); (case hn => rfl); (case hr => first | (go_simp; done) | (go_simp; rfl)); intro w13 hw; have hg : w11.grownBy w13 (some go10) := (by rw [hw]; exact HP12.2); have hp_ : Kd.R k67 67 w13 w.heap.size (fun _ => True) (.slice (some ⟨go10, 0, none⟩) x3_1.length co10) y243 := (by rw [hw, Ny243.out]; exact HP12.1); clear HP12; replace HO_3 := Aside0.mk (hp_); replace HB := Aside0.mk ((by rw [hw]; exact below_set (below_set (below_set (HB.out) GB10.out) GB10.out) GB10.out : Below w.heap.size w w13)); clear hg hw hp_))
        go_roundg k1
        case measure => have := HK1.out; omega
        case rel => exact ⟨(y243), (wrap64 (x4_1 + 1)), (by first | rfl | (simp; done) | (simp [*]; done)), H', ⟨by have := HK1.out; omega⟩, ⟨by (with_reducible repeat (first | apply Kd.R_alloc | apply Kd.R_drewN | apply Kd.R_drew)); exact HO_3.out⟩, ⟨bl⟩⟩
       ·rw [if_neg c9] at H
        exact absurd H (by simp)
      ·rw [if_neg c7] at H
       exact absurd H (by simp)
     ·rw [if_neg c6] at H
      have c6b0 : decide (x4_1 < (l0.length : Int)) = false := decide_eq_false c6
      clear c6
      obtain rfl := Option.some.inj H; clear H
      go_wp2
      go_ret
      exact ⟨_, by first | rfl | (simp [errW_none, errW_some] <;> rfl) | (simp [*, errW_none, errW_some] <;> rfl), by (with_reducible repeat (first | apply Kd.R_alloc | apply Kd.R_drewN | apply Kd.R_drew)); exact HO_3.out, bl⟩
  ·rw [if_neg c3] at H
   exact absurd H (by simp)
 ·rw [if_neg c2] at H
  exact absurd H (by simp)
end Go.Proofs.Ytedodaifpekahaa.P

end
section

namespace Go.Proofs.Ytedodaifpekahaa.P
open Go.RowKit Go.Proofs.YtedodaifpekahaaW.PrintWords Go.Proofs.YtedodaifpekahaaW.PrintLast Go.Proofs.YtedodaifpekahaaW.PrintMore
attribute [local go_sem] max2_int min2_int max_two min_two max_three min_three max_four min_four
set_option linter.unusedVariables false
set_option linter.unusedSimpArgs false
set_option maxHeartbeats 8000000 in
set_option maxRecDepth 100000 in
theorem laws_toShape.calls (k : Nat) (a0_0 : Bool) (A0_1 : Option Addr) (c0_1 : Nat) (l0_1 : List Int) (A0_2 : Option Addr) (c0_2 : Nat) (l0_2 : List Int) (r1 : Bool) (r2 : List Int) (r3 : List Int) (w : World) (hr0_1 : Kd.C (Kd.int .i64) w A0_1 l0_1.length l0_1) (hc0_1 : l0_1.length ≤ c0_1) (hr0_2 : Kd.C (Kd.int .i64) w A0_2 l0_2.length l0_2) (hc0_2 : l0_2.length ≤ c0_2) (h : laws_toShape.f k a0_0 l0_1 l0_2 = some (r1, r2, r3)) :
  Calls Try.prog 71 #[.agg #[.bool a0_0, .slice A0_1 l0_1.length c0_1, .slice A0_2 l0_2.length c0_2]] w fun e w' => ∃ v1_ v2_ : Value, e = .returned (.agg #[.bool r1, v1_, v2_]) ∧ Kd.R (Kd.int .i64) 3 w' w.heap.size (fun k_ => some k_ ≠ (v2_ : Value).ownBlock) v1_ r2 ∧ Kd.R (Kd.int .i64) 3 w' w.heap.size (fun k_ => some k_ ≠ (v1_ : Value).ownBlock) v2_ r3 ∧ Below w.heap.size w w' := by
 have hu111 := Try.underlying111
 have hu70 := Try.underlying70
 have HR0_1 := Aside0.mk hr0_1
 have HC0_1 := Aside0.mk hc0_1
 clear hr0_1 hc0_1
 have HR0_2 := Aside0.mk hr0_2
 have HC0_2 := Aside0.mk hc0_2
 clear hr0_2 hc0_2
 have HB := Aside0.mk (Below.refl w.heap.size w)
 have H : ((laws_toIntS.f k l0_1).bind fun t247 => ((laws_toIntS.f k l0_2).bind fun t250 => (some (a0_0, t247, t250)))) = some (r1, r2, r3) := h
 clear h
 obtain ⟨t247, A2, H⟩ := ob H
 obtain ⟨t250, A3, H⟩ := ob H
 simp only [Option.some.injEq, Prod.mk.injEq] at H
 obtain ⟨rfl, rfl, rfl⟩ := H
 go_enter Try.func71, Try.ntmps71
 go_wp2_with (first | ((with_reducible refine gd 1 rfl ?_); refine bx 1 #[.bool a0_0, .slice A0_1 l0_1.length c0_1, .slice A0_2 l0_2.length c0_2] 111 ?_; intro gb244 hg w4 hbox hb; have BK244 := Aside0.mk hbox; have GW244 := hz HB hg; have GE244 := hz HB hg; replace HB := hs HB hb; clear hb hbox hg) | ((with_reducible refine gd 2 rfl ?_); refine bx 2 #[.bool false, .slice none 0 0, .slice none 0 0] 70 ?_; intro gb245 hg w5 hbox hb; have BK245 := Aside0.mk hbox; have GW245 := hz HB hg; have GE245 := hz HB hg; have NB244_245 := nl BK244 hg; have NB245_244 := ng BK244 hg; replace BK244 := kb BK244 hb; replace HB := hs HB hb; clear hb hbox hg) | ((with_reducible refine gd 3 rfl ?_); refine bx 3 #[.bool false, .slice none 0 0, .slice none 0 0] 70 ?_; intro gb246 hg w6 hbox hb; have BK246 := Aside0.mk hbox; have GW246 := hz HB hg; have GE246 := hz HB hg; have NB244_246 := nl BK244 hg; have NB246_244 := ng BK244 hg; have NB245_246 := nl BK245 hg; have NB246_245 := ng BK245 hg; replace BK244 := kb BK244 hb; replace BK245 := kb BK245 hb; replace HB := hs HB hb; clear hb hbox hg; have hnb7 := NB244_245.out; have hnc7 := NB245_244.out; have hnb8 := NB244_246.out; have hnc8 := NB246_244.out; obtain ⟨_,_,_,_,_,_⟩ := cf3 BK244; have hnb10 := NB246_245.out; have hnc10 := NB245_246.out; obtain ⟨_,_,_,_,_,_⟩ := cf3 BK246) | ((with_reducible refine gc 58 rfl ?_); refine gl (some 9) Try.func58 #[.slice A0_1 l0_1.length c0_1] rfl ?_; (with_reducible refine (laws_toIntS.calls k _ _ l0_1 t247 _ ?side1 ?side2 A2.out).mono ?_); (case side1 => exact cb HR0_1.out); (case side2 => exact HC0_1.out); rintro e w12 ⟨v248, rfl, ho0, hb⟩; refine ⟨_, rfl, ?_⟩; have HO249 := Aside0.mk (Kd.R_lower ho0 (below_size bl)); replace BK244 := kq BK244 hb; replace BK245 := kq BK245 hb; replace BK246 := kp gb246 #[.bool a0_0, .slice none 0 0, .slice none 0 0] 70 hb; replace HB := hs HB hb; (try clear hb); (try clear ho0); obtain ⟨Ao13, co13, eo13⟩ := Kd.R_slice HO249.out; subst eo13; obtain ⟨_,_,_,_,_,_⟩ := cf3 BK246; obtain ⟨_,_,_,_,_,_⟩ := cf3 BK244) | ((with_reducible refine gc 58 rfl ?_); refine gl (some 13) Try.func58 #[.slice A0_2 l0_2.length c0_2] rfl ?_; (with_reducible refine (laws_toIntS.calls k _ _ l0_2 t250 _ ?side1 ?side2 A3.out).mono ?_); (case side1 => exact cb HR0_2.out); (case side2 => exact HC0_2.out); rintro e w16 ⟨v251, rfl, ho0, hb⟩; refine ⟨_, rfl, ?_⟩; have HO252 := Aside0.mk (Kd.R_lower (Kd.R_new' ho0 (Kd.R_lt (by (with_reducible repeat (first | apply Kd.R_alloc | apply Kd.R_drewN | apply Kd.R_drew)); exact (Kd.R_mono (Kd.R_far (p := ⟨gb246, 1, none⟩) (Kd.R_types HO249.out BK246.out (by decide)) (fun _ hk => hk.2) (.slice Ao13 t247.length co13)) (fun _ h_ => h_.1))))) (below_size bl)); replace HO249 := Aside0.mk (Kd.R_elder' (by (with_reducible repeat (first | apply Kd.R_alloc | apply Kd.R_drewN | apply Kd.R_drew)); exact (Kd.R_mono (Kd.R_far (p := ⟨gb246, 1, none⟩) (Kd.R_types HO249.out BK246.out (by decide)) (fun _ hk => hk.2) (.slice Ao13 t247.length co13)) (fun _ h_ => h_.1))) (Kd.R_base ho0) hb); replace BK244 := kq BK244 hb; replace BK245 := kq BK245 hb; replace BK246 := kp gb246 #[.bool a0_0, .slice Ao13 t247.length co13, .slice none 0 0] 70 hb; replace HB := hs HB hb; (try clear hb); (try clear hk); (try clear ho0); obtain ⟨Ao17, co17, eo17⟩ := Kd.R_slice HO252.out; subst eo17; obtain ⟨_,_,_,_,_,_⟩ := cf3 BK246; obtain ⟨_,_,_,_,_,_⟩ := cf3 BK245))
 refine bodyPost_ret (results_cell_row rfl _ _ gb245 70 #[.bool a0_0, .slice Ao13 t247.length co13, .slice Ao17 t250.length co17] (0, 0) _ rfl (by (with_reducible repeat (first | refine blk_drewN ?_ _ | refine blk_drew ?_ | refine blk_alloc ?_ _)); refine blk_put (cs := #[.bool a0_0, .slice Ao13 t247.length co13, .slice none 0 0]) ?_ 2 _ rfl; (with_reducible repeat (first | refine blk_drewN ?_ _ | refine blk_drew ?_ | refine blk_alloc ?_ _)); refine blk_put (cs := #[.bool a0_0, .slice none 0 0, .slice none 0 0]) ?_ 1 _ rfl; (with_reducible repeat (first | refine blk_drewN ?_ _ | refine blk_drew ?_ | refine blk_alloc ?_ _)); refine blk_put (cs := #[.bool false, .slice none 0 0, .slice none 0 0]) ?_ 0 _ rfl; (with_reducible repeat (first | refine blk_drewN ?_ _ | refine blk_drew ?_ | refine blk_alloc ?_ _)); refine blk_far ?_ NB245_246.out _; (with_reducible repeat (first | refine blk_drewN ?_ _ | refine blk_drew ?_ | refine blk_alloc ?_ _)); exact BK245.out) Try.underlying70 rfl (by kernel_rfl)) rfl ?_
 exact ⟨_, _, by first | rfl | (simp [errW_none, errW_some] <;> rfl) | (simp [*, errW_none, errW_some] <;> rfl), by (with_reducible repeat (first | apply Kd.R_alloc | apply Kd.R_drewN | apply Kd.R_drew)); exact Kd.R_mono (Kd.R_far (p := ⟨gb245, 2, none⟩) (Kd.R_far (p := ⟨gb245, 1, none⟩) (Kd.R_far (p := ⟨gb245, 0, none⟩) (Kd.R_far (p := ⟨gb246, 2, none⟩) (Kd.R_types (Kd.R_types HO249.out BK246.out (by decide)) BK245.out (by decide)) (fun _ hk => hk.1.2) (.slice Ao17 t250.length co17)) (fun _ hk => hk.2) (.bool a0_0)) (fun _ hk => hk.2) (.slice Ao13 t247.length co13)) (fun _ hk => hk.2) (.slice Ao17 t250.length co17)) (fun _ hk => hk.1.1.2), by (with_reducible repeat (first | apply Kd.R_alloc | apply Kd.R_drewN | apply Kd.R_drew)); exact Kd.R_mono (Kd.R_far (p := ⟨gb245, 2, none⟩) (Kd.R_far (p := ⟨gb245, 1, none⟩) (Kd.R_far (p := ⟨gb245, 0, none⟩) (Kd.R_far (p := ⟨gb246, 2, none⟩) (Kd.R_types (Kd.R_types HO252.out BK246.out (by decide)) BK245.out (by decide)) (fun _ hk => hk.1.2) (.slice Ao17 t250.length co17)) (fun _ hk => hk.2) (.bool a0_0)) (fun _ hk => hk.2) (.slice Ao13 t247.length co13)) (fun _ hk => hk.2) (.slice Ao17 t250.length co17)) (fun _ hk => hk.1.1.2), bl⟩
end Go.Proofs.Ytedodaifpekahaa.P

end
