/- A part of the claim FnExactUnitFind: texts of this session and texts that its program printed out of the translation, joined. -/
import Derived.Test.YtedodaifpekahaaCFnExactUnitFind21
import Derived.Test.YtedodaifpekahaaCFnExactUnitFind22
import Derived.Test.YtedodaifpekahaaCFnExactUnitFind25
import Derived.Test.YtedodaifpekahaaCFnExactUnitFind26
import Derived.WalkSpells
import Derived.WalkLawsBesides
import Derived.Test.YtedodaifpekahaaCFnExactUnitFind0
import Derived.Test.YtedodaifpekahaaCFnExactUnitFind1
import Derived.Test.YtedodaifpekahaaCFnExactUnitFind2
import Derived.Test.YtedodaifpekahaaCFnExactUnitFind3
import Derived.Test.YtedodaifpekahaaCFnExactUnitFind4
import Derived.Test.YtedodaifpekahaaCFnExactUnitFind5
import Derived.Test.YtedodaifpekahaaCFnExactUnitFind6
import Derived.Test.YtedodaifpekahaaCFnExactUnitFind7
import Derived.Test.YtedodaifpekahaaCFnExactUnitFind8
import Derived.Test.YtedodaifpekahaaCFnExactUnitFind9
import Derived.Test.YtedodaifpekahaaCFnExactUnitFind10
import Derived.Test.YtedodaifpekahaaCFnExactUnitFind11
import Derived.Test.YtedodaifpekahaaCFnExactUnitFind12
import Derived.Test.YtedodaifpekahaaCFnExactUnitFind13
import Derived.Test.YtedodaifpekahaaCFnExactUnitFind14
import Derived.Test.YtedodaifpekahaaCFnExactUnitFind15
import Derived.Test.YtedodaifpekahaaCFnExactUnitFind16
import Derived.Test.YtedodaifpekahaaCFnExactUnitFind17
import Derived.Test.YtedodaifpekahaaCFnExactUnitFind18
import Derived.Test.YtedodaifpekahaaCFnExactUnitFind19
import Derived.Test.YtedodaifpekahaaCFnExactUnitFind20
import Derived.Test.YtedodaifpekahaaCFnExactUnitFind23
import Derived.Test.YtedodaifpekahaaCFnExactUnitFind24
section

namespace Go.Proofs.Ytedodaifpekahaa.P
open Go.RowKit Go.Proofs.YtedodaifpekahaaW.PrintWords Go.Proofs.YtedodaifpekahaaW.PrintLast Go.Proofs.YtedodaifpekahaaW.PrintMore
attribute [local go_sem] max2_int min2_int max_two min_two max_three min_three max_four min_four
set_option linter.unusedVariables false
set_option linter.unusedSimpArgs false
def spec_UnitOk.T8 : Bool × List (List Nat × List Nat) := (true, [([], []), ([], []), ([1], [1]), ([], []), ([2, 3], [2, 3]), ([4], [4]), ([0, 5], [0, 5]), ([6], [6])])
def spec_UnitOk.B8 : List Nat := [0, 0, 2, 0, 14, 30, 63, 127]
theorem spec_UnitOk.tab8 : rtab .any (opsOf Try.f6 8) = spec_UnitOk.T8 := by kernel_rfl
theorem spec_UnitOk.bits8 : waitsOk spec_UnitOk.T8.2 spec_UnitOk.B8 = true := by kernel_rfl
set_option maxHeartbeats 8000000 in
set_option maxRecDepth 100000 in
theorem spec_UnitOk.calls (k : Nat) (A0_0 : Option Addr) (c0_0 : Nat) (l0_0 : List (S76)) (A0_1 : Option Addr) (c0_1 : Nat) (l0_1 : List (S46)) (r : Bool) (w : World) (hr0_0 : Kd.C k76 w A0_0 l0_0.length l0_0) (hc0_0 : l0_0.length ≤ c0_0) (hr0_1 : Kd.C k46 w A0_1 l0_1.length l0_1) (hc0_1 : l0_1.length ≤ c0_1) (h : spec_UnitOk.f k l0_0 l0_1 = some r) :
  Calls Try.prog 6 #[.agg #[.slice A0_0 l0_0.length c0_0, .slice A0_1 l0_1.length c0_1]] w fun e w' => e = .returned (.bool r) ∧ Below w.heap.size w w' := by
 have hu31 := Try.underlying31
 have hu46 := Try.underlying46
 have HR0_0 := Aside0.mk hr0_0
 have HC0_0 := Aside0.mk hc0_0
 clear hr0_0 hc0_0
 have HR0_1 := Aside0.mk hr0_1
 have HC0_1 := Aside0.mk hc0_1
 clear hr0_1 hc0_1
 have HB := Aside0.mk (Below.refl w.heap.size w)
 have H : ((spec_ClassesOk.f k l0_0).bind fun t205 => (if t205 = true then ((spec_l6In.f (l0_1.length : Int) 1 4).bind fun t206 => (spec_UnitOk.j0 k (!t206) l0_0 l0_1)) else (spec_UnitOk.j0 k true l0_0 l0_1))) = some r := h
 clear h
 have HC2 := Aside0.mk H
 clear H
 go_enter Try.func6, Try.ntmps6
 go_upto_region 1 with (first | ((with_reducible refine gd 1 rfl ?_); (try (refine gate_guard (by rfl) ?_; dsimp only)); refine bx 1 #[.slice A0_0 l0_0.length c0_0, .slice A0_1 l0_1.length c0_1] 31 ?_; intro gb204 hg w3 hbox hb; have BK204 := Aside0.mk hbox; have GW204 := hz HB hg; have GE204 := hz HB hg; replace HB := hs HB hb; clear hb hbox hg))
 (try simp only [Act.put, List.setIfInBounds_toArray, List.set_cons_zero, List.set_cons_succ])
 go_cut [14] (fun v14 wc => ∃ (kq : Nat) (x14_1 : Bool), v14 = .bool x14_1 ∧ Aside0 (spec_UnitOk.j0 kq x14_1 l0_0 l0_1 = some r) ∧ Aside0 (kq ≤ k) ∧ Aside0 (wc.heap[gb204]? = some (.cells #[(.slice A0_0 l0_0.length c0_0), (.slice A0_1 l0_1.length c0_1)] 31 (0, 0))) ∧ Aside0 (Below w.heap.size w wc))
 case first =>
  have H := HC2.out
  clear HC2
  obtain ⟨t205, A4, H⟩ := ob H
  by_cases c5 : t205 = true
  ·subst c5
   replace H := it H
   obtain ⟨t206, A6, H⟩ := ob H
   have H' := Aside0.mk H
   clear H
   obtain ⟨_,_,_,_⟩ := cf2 BK204
   go_wp2_with (first | ((with_reducible refine gc 14 rfl ?_); refine gl (some 6) Try.func14 #[.slice A0_0 l0_0.length c0_0] rfl ?_; (with_reducible refine (spec_ClassesOk.calls k _ _ l0_0 true _ ?side1 ?side2 A4.out).mono ?_); (case side1 => exact cb HR0_0.out); (case side2 => exact HC0_0.out); rintro e w8 ⟨rfl, hb⟩; refine ⟨_, rfl, ?_⟩; replace BK204 := kb BK204 hb; replace HB := hs HB hb; (try clear hb); obtain ⟨_,_,_,_⟩ := cf2 BK204) | (go_at_call 15; (with_reducible refine (spec_l6In.calls (l0_1.length : Int) 1 4 t206 _ A6.out).mono ?_); rintro e w' ⟨rfl, ⟨nd, rfl⟩⟩))
   go_meet
   case rel => exact ⟨_, (!t206), (by first | rfl | (simp; done) | (simp [*]; done)), H', ⟨by first | omega | exact Nat.le_refl _⟩, kk BK204, ⟨bl⟩⟩
  ·replace c5 := Bool.eq_false_iff.mpr c5
   subst c5
   replace H := ie H
   have H' := Aside0.mk H
   clear H
   obtain ⟨_,_,_,_⟩ := cf2 BK204
   go_wp2_with (first | ((with_reducible refine gc 14 rfl ?_); refine gl (some 6) Try.func14 #[.slice A0_0 l0_0.length c0_0] rfl ?_; (with_reducible refine (spec_ClassesOk.calls k _ _ l0_0 false _ ?side1 ?side2 A4.out).mono ?_); (case side1 => exact cb HR0_0.out); (case side2 => exact HC0_0.out); rintro e w11 ⟨rfl, hb⟩; refine ⟨_, rfl, ?_⟩; replace BK204 := kb BK204 hb; replace HB := hs HB hb; (try clear hb)))
   go_meet
   case rel => exact ⟨_, (true), (by first | rfl | (simp; done) | (simp [*]; done)), H', ⟨by first | omega | exact Nat.le_refl _⟩, kk BK204, ⟨bl⟩⟩
 case rest =>
  clear HC2
  obtain ⟨kq, x14_1, rfl, HA, HJ1, BK204, HB⟩ := hcut
  cases kq with
  | zero => exact absurd HA.out (by simp [spec_UnitOk.j0])
  | succ kj1 =>
   have H := HA.out
   clear HA
   simp only [spec_UnitOk.j0] at H
   by_cases c12 : x14_1 = true
   ·subst c12
    replace H := it H
    obtain rfl := Option.some.inj H; clear H
    go_wp2
    go_ret
    exact fin
   ·replace c12 := Bool.eq_false_iff.mpr c12
    subst c12
    replace H := ie H
    have HC13 := Aside0.mk H
    clear H
    go_upto_region 3 with (fail)
    go_cut [37] (fun v37 wc => ∃ (kq : Nat) (x37_12 : Bool), v37 = .bool x37_12 ∧ Aside0 (spec_UnitOk.j1 kq x37_12 l0_0 l0_1 = some r) ∧ Aside0 (kq ≤ kj1) ∧ Aside0 (wc.heap[gb204]? = some (.cells #[(.slice A0_0 l0_0.length c0_0), (.slice A0_1 l0_1.length c0_1)] 31 (0, 0))) ∧ Aside0 (Below w.heap.size w wc))
    case first =>
     have H := HC13.out
     clear HC13
     by_cases c14 : 0 < (l0_1.length : Int)
     ·rw [if_pos c14] at H
      have c14b0 : decide (0 < (l0_1.length : Int)) = true := decide_eq_true c14
      have c14b1 : decide (0 < l0_1.length) = true := decide_eq_true (by omega)
      clear c14
      (first | rw [c14b0] | (simp only [i64_w, i32_w]; rw [c14b0]) | skip)
      by_cases c15 : ((rd_T46 l0_1 0).f0) = (-1)
      ·rw [if_pos c15] at H
       have c15b0 := beq_iff_eq.mpr c15
       have c15b1 := bne_eq_false_iff_eq.mpr c15
       clear c15
       by_cases c16 : (((rd_T46 l0_1 0).f2).length : Int) > 0
       ·rw [if_pos c16] at H
        have c16b0 : decide (0 < (((rd_T46 l0_1 0).f2).length : Int)) = true := decide_eq_true c16
        have c16b1 : decide (0 < ((rd_T46 l0_1 0).f2).length) = true := decide_eq_true (by omega)
        clear c16
        have H' := Aside0.mk H
        clear H
        obtain ⟨_,_,_,_⟩ := cf2 BK204
        have p207 : 0 ≤ (0 : Int) := (by omega)
        have q207 : 0 < (l0_1.length : Int) := od
        obtain ⟨ad207, A207_2, c207_2, A207_5, c207_5, A207_6, c207_6, A207_7, c207_7, e207, hx207_0, hx207_1, hx207_2, hx207_3, hx207_4, hx207_5, hx207_6, hx207_7, hl207_2, hi207_2, hl207_5, hi207_5, hl207_6, hi207_6, hl207_7, hi207_7⟩ := at_T46 HR0_1.out 0 p207 q207
        cases e207
        have qi207 : (0 < l0_1.length) = True := eq_true (by omega)
        (try rw [show ((0 : Int)).toNat = 0 from rfl] at hx207_0)
        (try rw [show 0 * 8 = 0 from rfl] at hx207_0)
        (try rw [Addr.add_zero'] at hx207_0)
        (try rw [show ((0 : Int)).toNat = 0 from rfl] at hx207_1)
        (try rw [show 0 * 8 = 0 from rfl] at hx207_1)
        (try rw [Addr.add_zero'] at hx207_1)
        (try rw [show ((0 : Int)).toNat = 0 from rfl] at hx207_2)
        (try rw [show 0 * 8 = 0 from rfl] at hx207_2)
        (try rw [Addr.add_zero'] at hx207_2)
        (try rw [show ((0 : Int)).toNat = 0 from rfl] at hx207_3)
        (try rw [show 0 * 8 = 0 from rfl] at hx207_3)
        (try rw [Addr.add_zero'] at hx207_3)
        (try rw [show ((0 : Int)).toNat = 0 from rfl] at hx207_4)
        (try rw [show 0 * 8 = 0 from rfl] at hx207_4)
        (try rw [Addr.add_zero'] at hx207_4)
        (try rw [show ((0 : Int)).toNat = 0 from rfl] at hx207_5)
        (try rw [show 0 * 8 = 0 from rfl] at hx207_5)
        (try rw [Addr.add_zero'] at hx207_5)
        (try rw [show ((0 : Int)).toNat = 0 from rfl] at hx207_6)
        (try rw [show 0 * 8 = 0 from rfl] at hx207_6)
        (try rw [Addr.add_zero'] at hx207_6)
        (try rw [show ((0 : Int)).toNat = 0 from rfl] at hx207_7)
        (try rw [show 0 * 8 = 0 from rfl] at hx207_7)
        (try rw [Addr.add_zero'] at hx207_7)
        obtain ⟨hx207_0,hx207_1,hx207_2,hx207_3,hx207_4,hx207_5,hx207_6,hx207_7⟩ := hc8 HB hx207_0 hx207_1 hx207_2 hx207_3 hx207_4 hx207_5 hx207_6 hx207_7
        have HR207_2 := Aside0.mk hi207_2
        have HC207_2 := Aside0.mk hl207_2
        clear hi207_2 hl207_2
        have HR207_5 := Aside0.mk hi207_5
        have HC207_5 := Aside0.mk hl207_5
        clear hi207_5 hl207_5
        have HR207_6 := Aside0.mk hi207_6
        have HC207_6 := Aside0.mk hl207_6
        clear hi207_6 hl207_6
        have HR207_7 := Aside0.mk hi207_7
        have HC207_7 := Aside0.mk hl207_7
        clear hi207_7 hl207_7
        replace p207 := eq_true p207
        replace q207 := eq_true q207
        have p208 : 0 ≤ (0 : Int) := (by omega)
        have q208 : 0 < (l0_1.length : Int) := od
        obtain ⟨ad208, A208_2, c208_2, A208_5, c208_5, A208_6, c208_6, A208_7, c208_7, e208, hx208_0, hx208_1, hx208_2, hx208_3, hx208_4, hx208_5, hx208_6, hx208_7, hl208_2, hi208_2, hl208_5, hi208_5, hl208_6, hi208_6, hl208_7, hi208_7⟩ := at_T46 HR0_1.out 0 p208 q208
        obtain rfl : ad207 = ad208 := (by injection e208)
        have qi208 : (0 < l0_1.length) = True := eq_true (by omega)
        (try rw [show ((0 : Int)).toNat = 0 from rfl] at hx208_0)
        (try rw [show 0 * 8 = 0 from rfl] at hx208_0)
        (try rw [Addr.add_zero'] at hx208_0)
        (try rw [show ((0 : Int)).toNat = 0 from rfl] at hx208_1)
        (try rw [show 0 * 8 = 0 from rfl] at hx208_1)
        (try rw [Addr.add_zero'] at hx208_1)
        (try rw [show ((0 : Int)).toNat = 0 from rfl] at hx208_2)
        (try rw [show 0 * 8 = 0 from rfl] at hx208_2)
        (try rw [Addr.add_zero'] at hx208_2)
        (try rw [show ((0 : Int)).toNat = 0 from rfl] at hx208_3)
        (try rw [show 0 * 8 = 0 from rfl] at hx208_3)
        (try rw [Addr.add_zero'] at hx208_3)
        (try rw [show ((0 : Int)).toNat = 0 from rfl] at hx208_4)
        (try rw [show 0 * 8 = 0 from rfl] at hx208_4)
        (try rw [Addr.add_zero'] at hx208_4)
        (try rw [show ((0 : Int)).toNat = 0 from rfl] at hx208_5)
        (try rw [show 0 * 8 = 0 from rfl] at hx208_5)
        (try rw [Addr.add_zero'] at hx208_5)
        (try rw [show ((0 : Int)).toNat = 0 from rfl] at hx208_6)
        (try rw [show 0 * 8 = 0 from rfl] at hx208_6)
        (try rw [Addr.add_zero'] at hx208_6)
        (try rw [show ((0 : Int)).toNat = 0 from rfl] at hx208_7)
        (try rw [show 0 * 8 = 0 from rfl] at hx208_7)
        (try rw [Addr.add_zero'] at hx208_7)
        obtain ⟨hx208_0,hx208_1,hx208_2,hx208_3,hx208_4,hx208_5,hx208_6,hx208_7⟩ := hc8 HB hx208_0 hx208_1 hx208_2 hx208_3 hx208_4 hx208_5 hx208_6 hx208_7
        have HR208_2 := Aside0.mk hi208_2
        have HC208_2 := Aside0.mk hl208_2
        clear hi208_2 hl208_2
        have HR208_5 := Aside0.mk hi208_5
        have HC208_5 := Aside0.mk hl208_5
        clear hi208_5 hl208_5
        have HR208_6 := Aside0.mk hi208_6
        have HC208_6 := Aside0.mk hl208_6
        clear hi208_6 hl208_6
        have HR208_7 := Aside0.mk hi208_7
        have HC208_7 := Aside0.mk hl208_7
        clear hi208_7 hl208_7
        replace p208 := eq_true p208
        replace q208 := eq_true q208
        have ea_ := Option.some.inj (hx207_2.symm.trans hx208_2)
        injection ea_ with ea_ en_ ec_
        subst ea_
        subst ec_
        clear en_
        have ea_ := Option.some.inj (hx207_5.symm.trans hx208_5)
        injection ea_ with ea_ en_ ec_
        subst ea_
        subst ec_
        clear en_
        have ea_ := Option.some.inj (hx207_6.symm.trans hx208_6)
        injection ea_ with ea_ en_ ec_
        subst ea_
        subst ec_
        clear en_
        have ea_ := Option.some.inj (hx207_7.symm.trans hx208_7)
        injection ea_ with ea_ en_ ec_
        subst ea_
        subst ec_
        clear en_
        go_wp2
        go_meet
        case rel => exact ⟨_, (true), (by first | rfl | (simp; done) | (simp [*]; done)), H', ⟨by have := HJ1.out; first | omega | exact Nat.le_refl _⟩, kk BK204, ⟨bl⟩⟩
       ·rw [if_neg c16] at H
        have c16b0 : decide (0 < (((rd_T46 l0_1 0).f2).length : Int)) = false := decide_eq_false c16
        have c16b1 : decide (0 < ((rd_T46 l0_1 0).f2).length) = false := decide_eq_false (by omega)
        clear c16
        have H' := Aside0.mk H
        clear H
        obtain ⟨_,_,_,_⟩ := cf2 BK204
        have p207 : 0 ≤ (0 : Int) := (by omega)
        have q207 : 0 < (l0_1.length : Int) := od
        obtain ⟨ad207, A207_2, c207_2, A207_5, c207_5, A207_6, c207_6, A207_7, c207_7, e207, hx207_0, hx207_1, hx207_2, hx207_3, hx207_4, hx207_5, hx207_6, hx207_7, hl207_2, hi207_2, hl207_5, hi207_5, hl207_6, hi207_6, hl207_7, hi207_7⟩ := at_T46 HR0_1.out 0 p207 q207
        cases e207
        have qi207 : (0 < l0_1.length) = True := eq_true (by omega)
        (try rw [show ((0 : Int)).toNat = 0 from rfl] at hx207_0)
        (try rw [show 0 * 8 = 0 from rfl] at hx207_0)
        (try rw [Addr.add_zero'] at hx207_0)
        (try rw [show ((0 : Int)).toNat = 0 from rfl] at hx207_1)
        (try rw [show 0 * 8 = 0 from rfl] at hx207_1)
        (try rw [Addr.add_zero'] at hx207_1)
        (try rw [show ((0 : Int)).toNat = 0 from rfl] at hx207_2)
        (try rw [show 0 * 8 = 0 from rfl] at hx207_2)
        (try rw [Addr.add_zero'] at hx207_2)
        (try rw [show ((0 : Int)).toNat = 0 from rfl] at hx207_3)
        (try rw [show 0 * 8 = 0 from rfl] at hx207_3)
        (try rw [Addr.add_zero'] at hx207_3)
        (try rw [show ((0 : Int)).toNat = 0 from rfl] at hx207_4)
        (try rw [show 0 * 8 = 0 from rfl] at hx207_4)
        (try rw [Addr.add_zero'] at hx207_4)
        (try rw [show ((0 : Int)).toNat = 0 from rfl] at hx207_5)
        (try rw [show 0 * 8 = 0 from rfl] at hx207_5)
        (try rw [Addr.add_zero'] at hx207_5)
        (try rw [show ((0 : Int)).toNat = 0 from rfl] at hx207_6)
        (try rw [show 0 * 8 = 0 from rfl] at hx207_6)
        (try rw [Addr.add_zero'] at hx207_6)
        (try rw [show ((0 : Int)).toNat = 0 from rfl] at hx207_7)
        (try rw [show 0 * 8 = 0 from rfl] at hx207_7)
        (try rw [Addr.add_zero'] at hx207_7)
        obtain ⟨hx207_0,hx207_1,hx207_2,hx207_3,hx207_4,hx207_5,hx207_6,hx207_7⟩ := hc8 HB hx207_0 hx207_1 hx207_2 hx207_3 hx207_4 hx207_5 hx207_6 hx207_7
        have HR207_2 := Aside0.mk hi207_2
        have HC207_2 := Aside0.mk hl207_2
        clear hi207_2 hl207_2
        have HR207_5 := Aside0.mk hi207_5
        have HC207_5 := Aside0.mk hl207_5
        clear hi207_5 hl207_5
        have HR207_6 := Aside0.mk hi207_6
        have HC207_6 := Aside0.mk hl207_6
        clear hi207_6 hl207_6
        have HR207_7 := Aside0.mk hi207_7
        have HC207_7 := Aside0.mk hl207_7
        clear hi207_7 hl207_7
        replace p207 := eq_true p207
        replace q207 := eq_true q207
        have p208 : 0 ≤ (0 : Int) := (by omega)
        have q208 : 0 < (l0_1.length : Int) := od
        obtain ⟨ad208, A208_2, c208_2, A208_5, c208_5, A208_6, c208_6, A208_7, c208_7, e208, hx208_0, hx208_1, hx208_2, hx208_3, hx208_4, hx208_5, hx208_6, hx208_7, hl208_2, hi208_2, hl208_5, hi208_5, hl208_6, hi208_6, hl208_7, hi208_7⟩ := at_T46 HR0_1.out 0 p208 q208
        obtain rfl : ad207 = ad208 := (by injection e208)
        have qi208 : (0 < l0_1.length) = True := eq_true (by omega)
        (try rw [show ((0 : Int)).toNat = 0 from rfl] at hx208_0)
        (try rw [show 0 * 8 = 0 from rfl] at hx208_0)
        (try rw [Addr.add_zero'] at hx208_0)
        (try rw [show ((0 : Int)).toNat = 0 from rfl] at hx208_1)
        (try rw [show 0 * 8 = 0 from rfl] at hx208_1)
        (try rw [Addr.add_zero'] at hx208_1)
        (try rw [show ((0 : Int)).toNat = 0 from rfl] at hx208_2)
        (try rw [show 0 * 8 = 0 from rfl] at hx208_2)
        (try rw [Addr.add_zero'] at hx208_2)
        (try rw [show ((0 : Int)).toNat = 0 from rfl] at hx208_3)
        (try rw [show 0 * 8 = 0 from rfl] at hx208_3)
        (try rw [Addr.add_zero'] at hx208_3)
        (try rw [show ((0 : Int)).toNat = 0 from rfl] at hx208_4)
        (try rw [show 0 * 8 = 0 from rfl] at hx208_4)
        (try rw [Addr.add_zero'] at hx208_4)
        (try rw [show ((0 : Int)).toNat = 0 from rfl] at hx208_5)
        (try rw [show 0 * 8 = 0 from rfl] at hx208_5)
        (try rw [Addr.add_zero'] at hx208_5)
        (try rw [show ((0 : Int)).toNat = 0 from rfl] at hx208_6)
        (try rw [show 0 * 8 = 0 from rfl] at hx208_6)
        (try rw [Addr.add_zero'] at hx208_6)
        (try rw [show ((0 : Int)).toNat = 0 from rfl] at hx208_7)
        (try rw [show 0 * 8 = 0 from rfl] at hx208_7)
        (try rw [Addr.add_zero'] at hx208_7)
        obtain ⟨hx208_0,hx208_1,hx208_2,hx208_3,hx208_4,hx208_5,hx208_6,hx208_7⟩ := hc8 HB hx208_0 hx208_1 hx208_2 hx208_3 hx208_4 hx208_5 hx208_6 hx208_7
        have HR208_2 := Aside0.mk hi208_2
        have HC208_2 := Aside0.mk hl208_2
        clear hi208_2 hl208_2
        have HR208_5 := Aside0.mk hi208_5
        have HC208_5 := Aside0.mk hl208_5
        clear hi208_5 hl208_5
        have HR208_6 := Aside0.mk hi208_6
        have HC208_6 := Aside0.mk hl208_6
        clear hi208_6 hl208_6
        have HR208_7 := Aside0.mk hi208_7
        have HC208_7 := Aside0.mk hl208_7
        clear hi208_7 hl208_7
        replace p208 := eq_true p208
        replace q208 := eq_true q208
        have ea_ := Option.some.inj (hx207_2.symm.trans hx208_2)
        injection ea_ with ea_ en_ ec_
        subst ea_
        subst ec_
        clear en_
        have ea_ := Option.some.inj (hx207_5.symm.trans hx208_5)
        injection ea_ with ea_ en_ ec_
        subst ea_
        subst ec_
        clear en_
        have ea_ := Option.some.inj (hx207_6.symm.trans hx208_6)
        injection ea_ with ea_ en_ ec_
        subst ea_
        subst ec_
        clear en_
        have ea_ := Option.some.inj (hx207_7.symm.trans hx208_7)
        injection ea_ with ea_ en_ ec_
        subst ea_
        subst ec_
        clear en_
        have p209 : 0 ≤ (0 : Int) := (by omega)
        have q209 : 0 < (l0_1.length : Int) := od
        obtain ⟨ad209, A209_2, c209_2, A209_5, c209_5, A209_6, c209_6, A209_7, c209_7, e209, hx209_0, hx209_1, hx209_2, hx209_3, hx209_4, hx209_5, hx209_6, hx209_7, hl209_2, hi209_2, hl209_5, hi209_5, hl209_6, hi209_6, hl209_7, hi209_7⟩ := at_T46 HR0_1.out 0 p209 q209
        obtain rfl : ad207 = ad209 := (by injection e209)
        have qi209 : (0 < l0_1.length) = True := eq_true (by omega)
        (try rw [show ((0 : Int)).toNat = 0 from rfl] at hx209_0)
        (try rw [show 0 * 8 = 0 from rfl] at hx209_0)
        (try rw [Addr.add_zero'] at hx209_0)
        (try rw [show ((0 : Int)).toNat = 0 from rfl] at hx209_1)
        (try rw [show 0 * 8 = 0 from rfl] at hx209_1)
        (try rw [Addr.add_zero'] at hx209_1)
        (try rw [show ((0 : Int)).toNat = 0 from rfl] at hx209_2)
        (try rw [show 0 * 8 = 0 from rfl] at hx209_2)
        (try rw [Addr.add_zero'] at hx209_2)
        (try rw [show ((0 : Int)).toNat = 0 from rfl] at hx209_3)
        (try rw [show 0 * 8 = 0 from rfl] at hx209_3)
        (try rw [Addr.add_zero'] at hx209_3)
        (try rw [show ((0 : Int)).toNat = 0 from rfl] at hx209_4)
        (try rw [show 0 * 8 = 0 from rfl] at hx209_4)
        (try rw [Addr.add_zero'] at hx209_4)
        (try rw [show ((0 : Int)).toNat = 0 from rfl] at hx209_5)
        (try rw [show 0 * 8 = 0 from rfl] at hx209_5)
        (try rw [Addr.add_zero'] at hx209_5)
        (try rw [show ((0 : Int)).toNat = 0 from rfl] at hx209_6)
        (try rw [show 0 * 8 = 0 from rfl] at hx209_6)
        (try rw [Addr.add_zero'] at hx209_6)
        (try rw [show ((0 : Int)).toNat = 0 from rfl] at hx209_7)
        (try rw [show 0 * 8 = 0 from rfl] at hx209_7)
        (try rw [Addr.add_zero'] at hx209_7)
        obtain ⟨hx209_0,hx209_1,hx209_2,hx209_3,hx209_4,hx209_5,hx209_6,hx209_7⟩ := hc8 HB hx209_0 hx209_1 hx209_2 hx209_3 hx209_4 hx209_5 hx209_6 hx209_7
        have HR209_2 := Aside0.mk hi209_2
        have HC209_2 := Aside0.mk hl209_2
        clear hi209_2 hl209_2
        have HR209_5 := Aside0.mk hi209_5
        have HC209_5 := Aside0.mk hl209_5
        clear hi209_5 hl209_5
        have HR209_6 := Aside0.mk hi209_6
        have HC209_6 := Aside0.mk hl209_6
        clear hi209_6 hl209_6
        have HR209_7 := Aside0.mk hi209_7
        have HC209_7 := Aside0.mk hl209_7
        clear hi209_7 hl209_7
        replace p209 := eq_true p209
        replace q209 := eq_true q209
        have ea_ := Option.some.inj (hx207_2.symm.trans hx209_2)
        injection ea_ with ea_ en_ ec_
        subst ea_
        subst ec_
        clear en_
        have ea_ := Option.some.inj (hx207_5.symm.trans hx209_5)
        injection ea_ with ea_ en_ ec_
        subst ea_
        subst ec_
        clear en_
        have ea_ := Option.some.inj (hx207_6.symm.trans hx209_6)
        injection ea_ with ea_ en_ ec_
        subst ea_
        subst ec_
        clear en_
        have ea_ := Option.some.inj (hx207_7.symm.trans hx209_7)
        injection ea_ with ea_ en_ ec_
        subst ea_
        subst ec_
        clear en_
        go_wp2
        go_meet
        case rel => exact ⟨_, ((((rd_T46 l0_1 0).f3) != 1)), (by first | rfl | (simp; done) | (simp [*]; done)), H', ⟨by have := HJ1.out; first | omega | exact Nat.le_refl _⟩, kk BK204, ⟨bl⟩⟩
      ·rw [if_neg c15] at H
       have c15b0 := beq_eq_false_iff_ne.mpr c15
       have c15b1 := bne_iff_ne.mpr c15
       have H' := Aside0.mk H
       clear H
       obtain ⟨_,_,_,_⟩ := cf2 BK204
       have p207 : 0 ≤ (0 : Int) := (by omega)
       have q207 : 0 < (l0_1.length : Int) := od
       obtain ⟨ad207, A207_2, c207_2, A207_5, c207_5, A207_6, c207_6, A207_7, c207_7, e207, hx207_0, hx207_1, hx207_2, hx207_3, hx207_4, hx207_5, hx207_6, hx207_7, hl207_2, hi207_2, hl207_5, hi207_5, hl207_6, hi207_6, hl207_7, hi207_7⟩ := at_T46 HR0_1.out 0 p207 q207
       cases e207
       have qi207 : (0 < l0_1.length) = True := eq_true (by omega)
       (try rw [show ((0 : Int)).toNat = 0 from rfl] at hx207_0)
       (try rw [show 0 * 8 = 0 from rfl] at hx207_0)
       (try rw [Addr.add_zero'] at hx207_0)
       (try rw [show ((0 : Int)).toNat = 0 from rfl] at hx207_1)
       (try rw [show 0 * 8 = 0 from rfl] at hx207_1)
       (try rw [Addr.add_zero'] at hx207_1)
       (try rw [show ((0 : Int)).toNat = 0 from rfl] at hx207_2)
       (try rw [show 0 * 8 = 0 from rfl] at hx207_2)
       (try rw [Addr.add_zero'] at hx207_2)
       (try rw [show ((0 : Int)).toNat = 0 from rfl] at hx207_3)
       (try rw [show 0 * 8 = 0 from rfl] at hx207_3)
       (try rw [Addr.add_zero'] at hx207_3)
       (try rw [show ((0 : Int)).toNat = 0 from rfl] at hx207_4)
       (try rw [show 0 * 8 = 0 from rfl] at hx207_4)
       (try rw [Addr.add_zero'] at hx207_4)
       (try rw [show ((0 : Int)).toNat = 0 from rfl] at hx207_5)
       (try rw [show 0 * 8 = 0 from rfl] at hx207_5)
       (try rw [Addr.add_zero'] at hx207_5)
       (try rw [show ((0 : Int)).toNat = 0 from rfl] at hx207_6)
       (try rw [show 0 * 8 = 0 from rfl] at hx207_6)
       (try rw [Addr.add_zero'] at hx207_6)
       (try rw [show ((0 : Int)).toNat = 0 from rfl] at hx207_7)
       (try rw [show 0 * 8 = 0 from rfl] at hx207_7)
       (try rw [Addr.add_zero'] at hx207_7)
       obtain ⟨hx207_0,hx207_1,hx207_2,hx207_3,hx207_4,hx207_5,hx207_6,hx207_7⟩ := hc8 HB hx207_0 hx207_1 hx207_2 hx207_3 hx207_4 hx207_5 hx207_6 hx207_7
       have HR207_2 := Aside0.mk hi207_2
       have HC207_2 := Aside0.mk hl207_2
       clear hi207_2 hl207_2
       have HR207_5 := Aside0.mk hi207_5
       have HC207_5 := Aside0.mk hl207_5
       clear hi207_5 hl207_5
       have HR207_6 := Aside0.mk hi207_6
       have HC207_6 := Aside0.mk hl207_6
       clear hi207_6 hl207_6
       have HR207_7 := Aside0.mk hi207_7
       have HC207_7 := Aside0.mk hl207_7
       clear hi207_7 hl207_7
       replace p207 := eq_true p207
       replace q207 := eq_true q207
       go_wp2
       go_meet
       case rel => exact ⟨_, (true), (by first | rfl | (simp; done) | (simp [*]; done)), H', ⟨by have := HJ1.out; first | omega | exact Nat.le_refl _⟩, kk BK204, ⟨bl⟩⟩
     ·rw [if_neg c14] at H
      exact absurd H (by simp)
    case rest =>
     clear HC13
     obtain ⟨kq, x37_12, rfl, HA, HJ12, BK204, HB⟩ := hcut
     cases kq with
     | zero => exact absurd HA.out (by simp [spec_UnitOk.j1])
     | succ kj12 =>
      have H := HA.out
      clear HA
      simp only [spec_UnitOk.j1] at H
      by_cases c20 : x37_12 = true
      ·subst c20
       replace H := it H
       obtain rfl := Option.some.inj H; clear H
       go_wp2
       go_ret
       exact fin
      ·replace c20 := Bool.eq_false_iff.mpr c20
       subst c20
       replace H := ie H
       have H' := Aside0.mk H
       clear H
       go_wp2
       go_loopg [3] kj12 (fun kq v3 w' => ∃ (x3_3 : Int), v3 = .int .i64 x3_3 ∧ Aside0 (spec_UnitOk.l0 kq x3_3 l0_0 l0_1 = some r) ∧ Aside0 (kq ≤ kj12) ∧ Aside0 (w'.heap[gb204]? = some (.cells #[(.slice A0_0 l0_0.length c0_0), (.slice A0_1 l0_1.length c0_1)] 31 (0, 0))) ∧ Aside0 (Below w.heap.size w w'))
       case atStart => exact ⟨(0), (by first | rfl | (simp; done) | (simp [*]; done)), H', ⟨Nat.le_refl _⟩, kk BK204, ⟨bl⟩⟩
       case round =>
        clear H'
        obtain ⟨x3_3, rfl, HA, HK3, BK204, HB⟩ := hrel
        cases gk with
        | zero => exact absurd HA.out (by simp [spec_UnitOk.l0])
        | succ k3 =>
         have H := HA.out
         clear HA
         simp only [spec_UnitOk.l0] at H
         by_cases c21 : x3_3 < (l0_1.length : Int)
         ·rw [if_pos c21] at H
          have c21b0 : decide (x3_3 < (l0_1.length : Int)) = true := decide_eq_true c21
          clear c21
          by_cases c22 : 0 ≤ x3_3
          ·rw [if_pos c22] at H
           have c22b0 : decide (0 ≤ x3_3) = true := decide_eq_true c22
           clear c22
           obtain ⟨t211, A23, H⟩ := ob H
           by_cases c24 : t211 = true
           ·subst c24
            replace H := it H
            have H' := Aside0.mk H
            clear H
            obtain ⟨_,_,_,_⟩ := cf2 BK204
            try go_wp2
            replace BK204 := Aside0.mk (blk_drew BK204.out)
            replace HB := Aside0.mk (below_drew1 HB.out)
            have p210 : 0 ≤ (x3_3 : Int) := od
            have q210 : x3_3 < (l0_1.length : Int) := od
            obtain ⟨ad210, A210_2, c210_2, A210_5, c210_5, A210_6, c210_6, A210_7, c210_7, e210, hx210_0, hx210_1, hx210_2, hx210_3, hx210_4, hx210_5, hx210_6, hx210_7, hl210_2, hi210_2, hl210_5, hi210_5, hl210_6, hi210_6, hl210_7, hi210_7⟩ := at_T46 HR0_1.out x3_3 p210 q210
            have hw210_7 := hx210_7
            have hw210_6 := hx210_6
            have hw210_5 := hx210_5
            have hw210_4 := hx210_4
            have hw210_3 := hx210_3
            have hw210_2 := hx210_2
            have hw210_1 := hx210_1
            have hw210_0 := hx210_0
            cases e210
            obtain ⟨hx210_0,hx210_1,hx210_2,hx210_3,hx210_4,hx210_5,hx210_6,hx210_7⟩ := hc8 HB hx210_0 hx210_1 hx210_2 hx210_3 hx210_4 hx210_5 hx210_6 hx210_7
            have HR210_2 := Aside0.mk hi210_2
            have HC210_2 := Aside0.mk hl210_2
            clear hi210_2 hl210_2
            have HR210_5 := Aside0.mk hi210_5
            have HC210_5 := Aside0.mk hl210_5
            clear hi210_5 hl210_5
            have HR210_6 := Aside0.mk hi210_6
            have HC210_6 := Aside0.mk hl210_6
            clear hi210_6 hl210_6
            have HR210_7 := Aside0.mk hi210_7
            have HC210_7 := Aside0.mk hl210_7
            clear hi210_7 hl210_7
            replace p210 := eq_true p210
            replace q210 := eq_true q210
            refine start_ (n := 8) (S := fun w' => w'.cell? ⟨gb204, 0, none⟩ = some (.slice A0_0 l0_0.length c0_0) ∧ w'.cell? ⟨gb204, 1, none⟩ = some (.slice (some ad210) l0_1.length c0_1) ∧ w'.cell? (ad210.add ((x3_3).toNat * 8)) = some (.int .i64 ((rd_T46 l0_1 x3_3).f0)) ∧ w'.cell? ⟨(ad210.add ((x3_3).toNat * 8)).block, (ad210.add ((x3_3).toNat * 8)).off + 1, none⟩ = some (.int .i64 ((rd_T46 l0_1 x3_3).f1)) ∧ w'.cell? ⟨(ad210.add ((x3_3).toNat * 8)).block, (ad210.add ((x3_3).toNat * 8)).off + 2, none⟩ = some (.slice A210_2 ((rd_T46 l0_1 x3_3).f2).length c210_2) ∧ w'.cell? ⟨(ad210.add ((x3_3).toNat * 8)).block, (ad210.add ((x3_3).toNat * 8)).off + 3, none⟩ = some (.int .i64 ((rd_T46 l0_1 x3_3).f3)) ∧ w'.cell? ⟨(ad210.add ((x3_3).toNat * 8)).block, (ad210.add ((x3_3).toNat * 8)).off + 4, none⟩ = some (.int .i64 ((rd_T46 l0_1 x3_3).f4)) ∧ w'.cell? ⟨(ad210.add ((x3_3).toNat * 8)).block, (ad210.add ((x3_3).toNat * 8)).off + 5, none⟩ = some (.slice A210_5 ((rd_T46 l0_1 x3_3).f5).length c210_5) ∧ w'.cell? ⟨(ad210.add ((x3_3).toNat * 8)).block, (ad210.add ((x3_3).toNat * 8)).off + 6, none⟩ = some (.slice A210_6 ((rd_T46 l0_1 x3_3).f6).length c210_6) ∧ w'.cell? ⟨(ad210.add ((x3_3).toNat * 8)).block, (ad210.add ((x3_3).toNat * 8)).off + 7, none⟩ = some (.slice A210_7 ((rd_T46 l0_1 x3_3).f7).length c210_7)) (ds := []) #[false, false, false, false, false, false, false, false] (by kernel_rfl) rfl rfl ⟨(blk_cell BK204.out 0).trans rfl, (blk_cell BK204.out 1).trans rfl, ((HB.out.cell (World.block_lt_of_cell? w _ hw210_0)).trans hw210_0), ((HB.out.cell (World.block_lt_of_cell? w _ hw210_1)).trans hw210_1), ((HB.out.cell (World.block_lt_of_cell? w _ hw210_2)).trans hw210_2), ((HB.out.cell (World.block_lt_of_cell? w _ hw210_3)).trans hw210_3), ((HB.out.cell (World.block_lt_of_cell? w _ hw210_4)).trans hw210_4), ((HB.out.cell (World.block_lt_of_cell? w _ hw210_5)).trans hw210_5), ((HB.out.cell (World.block_lt_of_cell? w _ hw210_6)).trans hw210_6), ((HB.out.cell (World.block_lt_of_cell? w _ hw210_7)).trans hw210_7)⟩ (fun hHeld => ?_); refine with_tabW spec_UnitOk.tab8 spec_UnitOk.bits8 (fun HT_ HW_ => ?_)
            generalize wr.drew = w26 at BK204 HB HR210_2 HR210_5 HR210_6 HR210_7 hx210_0 hx210_1 hx210_2 hx210_3 hx210_4 hx210_5 hx210_6 hx210_7 hHeld ⊢
            refine pu 1 46 #[false, true, false, false, false, false, false, false] HT_ rfl rfl ?_
            refine pu 3 48 #[false, true, false, true, false, false, false, false] HT_ rfl rfl ?_
            refine ta 0 45 #[true, true, false, true, false, false, false, false] HT_ HW_ hHeld rfl rfl ?_
            refine ta 2 47 #[true, true, true, true, false, false, false, false] HT_ HW_ hHeld rfl rfl ?_
            refine pu 4 49 #[true, true, true, true, true, false, false, false] HT_ rfl rfl ?_
            refine ta 5 50 #[true, true, true, true, true, true, false, false] HT_ HW_ hHeld rfl rfl ?_
            refine one_ (i := 6) (N := some 51) #[true, true, true, true, true, true, true, false] rfl rfl (one_of HT_.out (by kernel_rfl)) (by decide) (fun K hK => ?_)
            refine gs Try.func16 #[.agg #[.slice A0_0 l0_0.length c0_0, .slice (some ad210) l0_1.length c0_1], .agg #[.int .i64 ((rd_T46 l0_1 x3_3).f0), .int .i64 ((rd_T46 l0_1 x3_3).f1), .slice A210_2 ((rd_T46 l0_1 x3_3).f2).length c210_2, .int .i64 ((rd_T46 l0_1 x3_3).f3), .int .i64 ((rd_T46 l0_1 x3_3).f4), .slice A210_5 ((rd_T46 l0_1 x3_3).f5).length c210_5, .slice A210_6 ((rd_T46 l0_1 x3_3).f6).length c210_6, .slice A210_7 ((rd_T46 l0_1 x3_3).f7).length c210_7]] rfl rfl ?_
            with_reducible refine (spec_l3Method.calls k3 _ _ l0_0 _ _ l0_1 ((rd_T46 l0_1 x3_3).f0) ((rd_T46 l0_1 x3_3).f1) _ _ ((rd_T46 l0_1 x3_3).f2) ((rd_T46 l0_1 x3_3).f3) ((rd_T46 l0_1 x3_3).f4) _ _ ((rd_T46 l0_1 x3_3).f5) _ _ ((rd_T46 l0_1 x3_3).f6) _ _ ((rd_T46 l0_1 x3_3).f7) true _ ?side1 ?side2 ?side3 ?side4 ?side5 ?side6 ?side7 ?side8 ?side9 ?side10 ?side11 ?side12 A23.out).mono ?_
            (case side1 => exact cb HR0_0.out)
            (case side2 => exact HC0_0.out)
            (case side3 => exact cb HR0_1.out)
            (case side4 => exact HC0_1.out)
            (case side5 => exact cb HR210_2.out)
            (case side6 => exact HC210_2.out)
            (case side7 => exact cb HR210_5.out)
            (case side8 => exact HC210_5.out)
            (case side9 => exact cb HR210_6.out)
            (case side10 => exact HC210_6.out)
            (case side11 => exact cb HR210_7.out)
            (case side12 => exact HC210_7.out)
            rintro e w27 ⟨rfl, hb⟩
            refine ⟨_, rfl, ?_⟩
            replace BK204 := kb BK204 hb
            replace HB := hs HB hb
            (try clear hb)
            (try clear hb2)
            (try clear hk)
            (try clear hi)
            refine hK.out _ _ ⟨(blk_cell BK204.out 0).trans rfl, (blk_cell BK204.out 1).trans rfl, ((HB.out.cell (World.block_lt_of_cell? w _ hw210_0)).trans hw210_0), ((HB.out.cell (World.block_lt_of_cell? w _ hw210_1)).trans hw210_1), ((HB.out.cell (World.block_lt_of_cell? w _ hw210_2)).trans hw210_2), ((HB.out.cell (World.block_lt_of_cell? w _ hw210_3)).trans hw210_3), ((HB.out.cell (World.block_lt_of_cell? w _ hw210_4)).trans hw210_4), ((HB.out.cell (World.block_lt_of_cell? w _ hw210_5)).trans hw210_5), ((HB.out.cell (World.block_lt_of_cell? w _ hw210_6)).trans hw210_6), ((HB.out.cell (World.block_lt_of_cell? w _ hw210_7)).trans hw210_7)⟩ (fun hHeld => ?_)
            clear hK K
            refine no 51 ?_
            refine pu 7 52 #[true, true, true, true, true, true, true, true] HT_ rfl rfl ?_
            refine done_ (done_of HT_.out (by kernel_rfl)) ?_
            try go_wp2
            go_roundg k3
            case measure => have := HJ1.out; have := HJ12.out; have := HK3.out; omega
            case rel => exact ⟨(wrap64 (x3_3 + 1)), (by first | rfl | (simp; done) | (simp [*]; done)), H', ⟨by have := HJ1.out; have := HJ12.out; have := HK3.out; omega⟩, kk BK204, ⟨bl⟩⟩
           ·replace c24 := Bool.eq_false_iff.mpr c24
            subst c24
            replace H := ie H
            obtain rfl := Option.some.inj H; clear H
            obtain ⟨_,_,_,_⟩ := cf2 BK204
            try go_wp2
            replace BK204 := Aside0.mk (blk_drew BK204.out)
            replace HB := Aside0.mk (below_drew1 HB.out)
            have p210 : 0 ≤ (x3_3 : Int) := od
            have q210 : x3_3 < (l0_1.length : Int) := od
            obtain ⟨ad210, A210_2, c210_2, A210_5, c210_5, A210_6, c210_6, A210_7, c210_7, e210, hx210_0, hx210_1, hx210_2, hx210_3, hx210_4, hx210_5, hx210_6, hx210_7, hl210_2, hi210_2, hl210_5, hi210_5, hl210_6, hi210_6, hl210_7, hi210_7⟩ := at_T46 HR0_1.out x3_3 p210 q210
            have hw210_7 := hx210_7
            have hw210_6 := hx210_6
            have hw210_5 := hx210_5
            have hw210_4 := hx210_4
            have hw210_3 := hx210_3
            have hw210_2 := hx210_2
            have hw210_1 := hx210_1
            have hw210_0 := hx210_0
            cases e210
            obtain ⟨hx210_0,hx210_1,hx210_2,hx210_3,hx210_4,hx210_5,hx210_6,hx210_7⟩ := hc8 HB hx210_0 hx210_1 hx210_2 hx210_3 hx210_4 hx210_5 hx210_6 hx210_7
            have HR210_2 := Aside0.mk hi210_2
            have HC210_2 := Aside0.mk hl210_2
            clear hi210_2 hl210_2
            have HR210_5 := Aside0.mk hi210_5
            have HC210_5 := Aside0.mk hl210_5
            clear hi210_5 hl210_5
            have HR210_6 := Aside0.mk hi210_6
            have HC210_6 := Aside0.mk hl210_6
            clear hi210_6 hl210_6
            have HR210_7 := Aside0.mk hi210_7
            have HC210_7 := Aside0.mk hl210_7
            clear hi210_7 hl210_7
            replace p210 := eq_true p210
            replace q210 := eq_true q210
            refine start_ (n := 8) (S := fun w' => w'.cell? ⟨gb204, 0, none⟩ = some (.slice A0_0 l0_0.length c0_0) ∧ w'.cell? ⟨gb204, 1, none⟩ = some (.slice (some ad210) l0_1.length c0_1) ∧ w'.cell? (ad210.add ((x3_3).toNat * 8)) = some (.int .i64 ((rd_T46 l0_1 x3_3).f0)) ∧ w'.cell? ⟨(ad210.add ((x3_3).toNat * 8)).block, (ad210.add ((x3_3).toNat * 8)).off + 1, none⟩ = some (.int .i64 ((rd_T46 l0_1 x3_3).f1)) ∧ w'.cell? ⟨(ad210.add ((x3_3).toNat * 8)).block, (ad210.add ((x3_3).toNat * 8)).off + 2, none⟩ = some (.slice A210_2 ((rd_T46 l0_1 x3_3).f2).length c210_2) ∧ w'.cell? ⟨(ad210.add ((x3_3).toNat * 8)).block, (ad210.add ((x3_3).toNat * 8)).off + 3, none⟩ = some (.int .i64 ((rd_T46 l0_1 x3_3).f3)) ∧ w'.cell? ⟨(ad210.add ((x3_3).toNat * 8)).block, (ad210.add ((x3_3).toNat * 8)).off + 4, none⟩ = some (.int .i64 ((rd_T46 l0_1 x3_3).f4)) ∧ w'.cell? ⟨(ad210.add ((x3_3).toNat * 8)).block, (ad210.add ((x3_3).toNat * 8)).off + 5, none⟩ = some (.slice A210_5 ((rd_T46 l0_1 x3_3).f5).length c210_5) ∧ w'.cell? ⟨(ad210.add ((x3_3).toNat * 8)).block, (ad210.add ((x3_3).toNat * 8)).off + 6, none⟩ = some (.slice A210_6 ((rd_T46 l0_1 x3_3).f6).length c210_6) ∧ w'.cell? ⟨(ad210.add ((x3_3).toNat * 8)).block, (ad210.add ((x3_3).toNat * 8)).off + 7, none⟩ = some (.slice A210_7 ((rd_T46 l0_1 x3_3).f7).length c210_7)) (ds := []) #[false, false, false, false, false, false, false, false] (by kernel_rfl) rfl rfl ⟨(blk_cell BK204.out 0).trans rfl, (blk_cell BK204.out 1).trans rfl, ((HB.out.cell (World.block_lt_of_cell? w _ hw210_0)).trans hw210_0), ((HB.out.cell (World.block_lt_of_cell? w _ hw210_1)).trans hw210_1), ((HB.out.cell (World.block_lt_of_cell? w _ hw210_2)).trans hw210_2), ((HB.out.cell (World.block_lt_of_cell? w _ hw210_3)).trans hw210_3), ((HB.out.cell (World.block_lt_of_cell? w _ hw210_4)).trans hw210_4), ((HB.out.cell (World.block_lt_of_cell? w _ hw210_5)).trans hw210_5), ((HB.out.cell (World.block_lt_of_cell? w _ hw210_6)).trans hw210_6), ((HB.out.cell (World.block_lt_of_cell? w _ hw210_7)).trans hw210_7)⟩ (fun hHeld => ?_); refine with_tabW spec_UnitOk.tab8 spec_UnitOk.bits8 (fun HT_ HW_ => ?_)
            generalize wr.drew = w29 at BK204 HB HR210_2 HR210_5 HR210_6 HR210_7 hx210_0 hx210_1 hx210_2 hx210_3 hx210_4 hx210_5 hx210_6 hx210_7 hHeld ⊢
            refine pu 1 46 #[false, true, false, false, false, false, false, false] HT_ rfl rfl ?_
            refine pu 3 48 #[false, true, false, true, false, false, false, false] HT_ rfl rfl ?_
            refine ta 0 45 #[true, true, false, true, false, false, false, false] HT_ HW_ hHeld rfl rfl ?_
            refine ta 2 47 #[true, true, true, true, false, false, false, false] HT_ HW_ hHeld rfl rfl ?_
            refine pu 4 49 #[true, true, true, true, true, false, false, false] HT_ rfl rfl ?_
            refine ta 5 50 #[true, true, true, true, true, true, false, false] HT_ HW_ hHeld rfl rfl ?_
            refine one_ (i := 6) (N := some 51) #[true, true, true, true, true, true, true, false] rfl rfl (one_of HT_.out (by kernel_rfl)) (by decide) (fun K hK => ?_)
            refine gs Try.func16 #[.agg #[.slice A0_0 l0_0.length c0_0, .slice (some ad210) l0_1.length c0_1], .agg #[.int .i64 ((rd_T46 l0_1 x3_3).f0), .int .i64 ((rd_T46 l0_1 x3_3).f1), .slice A210_2 ((rd_T46 l0_1 x3_3).f2).length c210_2, .int .i64 ((rd_T46 l0_1 x3_3).f3), .int .i64 ((rd_T46 l0_1 x3_3).f4), .slice A210_5 ((rd_T46 l0_1 x3_3).f5).length c210_5, .slice A210_6 ((rd_T46 l0_1 x3_3).f6).length c210_6, .slice A210_7 ((rd_T46 l0_1 x3_3).f7).length c210_7]] rfl rfl ?_
            with_reducible refine (spec_l3Method.calls k3 _ _ l0_0 _ _ l0_1 ((rd_T46 l0_1 x3_3).f0) ((rd_T46 l0_1 x3_3).f1) _ _ ((rd_T46 l0_1 x3_3).f2) ((rd_T46 l0_1 x3_3).f3) ((rd_T46 l0_1 x3_3).f4) _ _ ((rd_T46 l0_1 x3_3).f5) _ _ ((rd_T46 l0_1 x3_3).f6) _ _ ((rd_T46 l0_1 x3_3).f7) false _ ?side1 ?side2 ?side3 ?side4 ?side5 ?side6 ?side7 ?side8 ?side9 ?side10 ?side11 ?side12 A23.out).mono ?_
            (case side1 => exact cb HR0_0.out)
            (case side2 => exact HC0_0.out)
            (case side3 => exact cb HR0_1.out)
            (case side4 => exact HC0_1.out)
            (case side5 => exact cb HR210_2.out)
            (case side6 => exact HC210_2.out)
            (case side7 => exact cb HR210_5.out)
            (case side8 => exact HC210_5.out)
            (case side9 => exact cb HR210_6.out)
            (case side10 => exact HC210_6.out)
            (case side11 => exact cb HR210_7.out)
            (case side12 => exact HC210_7.out)
            rintro e w30 ⟨rfl, hb⟩
            refine ⟨_, rfl, ?_⟩
            replace BK204 := kb BK204 hb
            replace HB := hs HB hb
            (try clear hb)
            (try clear hb2)
            (try clear hk)
            (try clear hi)
            refine hK.out _ _ ⟨(blk_cell BK204.out 0).trans rfl, (blk_cell BK204.out 1).trans rfl, ((HB.out.cell (World.block_lt_of_cell? w _ hw210_0)).trans hw210_0), ((HB.out.cell (World.block_lt_of_cell? w _ hw210_1)).trans hw210_1), ((HB.out.cell (World.block_lt_of_cell? w _ hw210_2)).trans hw210_2), ((HB.out.cell (World.block_lt_of_cell? w _ hw210_3)).trans hw210_3), ((HB.out.cell (World.block_lt_of_cell? w _ hw210_4)).trans hw210_4), ((HB.out.cell (World.block_lt_of_cell? w _ hw210_5)).trans hw210_5), ((HB.out.cell (World.block_lt_of_cell? w _ hw210_6)).trans hw210_6), ((HB.out.cell (World.block_lt_of_cell? w _ hw210_7)).trans hw210_7)⟩ (fun hHeld => ?_)
            clear hK K
            refine no 51 ?_
            refine pu 7 52 #[true, true, true, true, true, true, true, true] HT_ rfl rfl ?_
            refine done_ (done_of HT_.out (by kernel_rfl)) ?_
            try go_wp2
            go_ret
            exact fin
          ·rw [if_neg c22] at H
           exact absurd H (by simp)
         ·rw [if_neg c21] at H
          have c21b0 : decide (x3_3 < (l0_1.length : Int)) = false := decide_eq_false c21
          clear c21
          obtain ⟨t212, A31, H⟩ := ob H
          obtain rfl := Option.some.inj H; clear H
          obtain ⟨_,_,_,_⟩ := cf2 BK204
          go_wp2_with (first | ((with_reducible refine gc 17 rfl ?_); refine gl (some 54) Try.func17 #[.agg #[.slice A0_0 l0_0.length c0_0, .slice A0_1 l0_1.length c0_1]] rfl ?_; (with_reducible refine (spec_l3Apart.calls k3 _ _ l0_0 _ _ l0_1 t212 _ ?side1 ?side2 ?side3 ?side4 A31.out).mono ?_); (case side1 => exact cb HR0_0.out); (case side2 => exact HC0_0.out); (case side3 => exact cb HR0_1.out); (case side4 => exact HC0_1.out); rintro e w33 ⟨rfl, hb⟩; refine ⟨_, rfl, ?_⟩; replace BK204 := kb BK204 hb; replace HB := hs HB hb; (try clear hb)))
          go_ret
          exact fin
end Go.Proofs.Ytedodaifpekahaa.P

end
section

namespace Go.Proofs.Ytedodaifpekahaa.P
open Go.RowKit Go.Proofs.YtedodaifpekahaaW.PrintWords Go.Proofs.YtedodaifpekahaaW.PrintLast Go.Proofs.YtedodaifpekahaaW.PrintMore
attribute [local go_sem] max2_int min2_int max_two min_two max_three min_three max_four min_four
set_option linter.unusedVariables false
set_option linter.unusedSimpArgs false
set_option maxHeartbeats 8000000 in
set_option maxRecDepth 100000 in
theorem spec_UnitFind.calls (k : Nat) (A0_0 : Option Addr) (c0_0 : Nat) (l0_0 : List (S76)) (A0_1 : Option Addr) (c0_1 : Nat) (l0_1 : List (S46)) (a1 : Int) (a2 : Int) (r : Int) (w : World) (hr0_0 : Kd.C k76 w A0_0 l0_0.length l0_0) (hc0_0 : l0_0.length ≤ c0_0) (hr0_1 : Kd.C k46 w A0_1 l0_1.length l0_1) (hc0_1 : l0_1.length ≤ c0_1) (h : spec_UnitFind.f k l0_0 l0_1 a1 a2 = some r) :
  Calls Try.prog 10 #[.agg #[.slice A0_0 l0_0.length c0_0, .slice A0_1 l0_1.length c0_1], .int .i64 a1, .int .i64 a2] w fun e w' => e = .returned (.int .i64 r) ∧ Below w.heap.size w w' := by
 have hu31 := Try.underlying31
 have HR0_0 := Aside0.mk hr0_0
 have HC0_0 := Aside0.mk hc0_0
 clear hr0_0 hc0_0
 have HR0_1 := Aside0.mk hr0_1
 have HC0_1 := Aside0.mk hc0_1
 clear hr0_1 hc0_1
 have HB := Aside0.mk (Below.refl w.heap.size w)
 have H : ((spec_UnitOk.f k l0_0 l0_1).bind fun t479 => (if t479 = true then ((spec_l6In.f a1 0 (wrap64 ((l0_0.length : Int) - 1))).bind fun t480 => (if t480 = true then ((spec_l3Find.f k l0_0 l0_1 a1 a2).bind fun t481 => (some t481)) else (some (-1)))) else (some (-1)))) = some r := h
 clear h
 obtain ⟨t479, A4, H⟩ := ob H
 by_cases c5 : t479 = true
 ·subst c5
  replace H := it H
  obtain ⟨t480, A6, H⟩ := ob H
  by_cases c7 : t480 = true
  ·subst c7
   replace H := it H
   obtain ⟨t481, A8, H⟩ := ob H
   obtain rfl := Option.some.inj H; clear H
   go_enter Try.func10, Try.ntmps10
   go_wp2_with (first | ((with_reducible refine gd 3 rfl ?_); (try (refine gate_guard (by rfl) ?_; dsimp only)); refine bx 3 #[.slice A0_0 l0_0.length c0_0, .slice A0_1 l0_1.length c0_1] 31 ?_; intro gb478 hg w9 hbox hb; have BK478 := Aside0.mk hbox; have GW478 := hz HB hg; have GE478 := hz HB hg; replace HB := hs HB hb; clear hb hbox hg; obtain ⟨_,_,_,_⟩ := cf2 BK478) | ((with_reducible refine gc 6 rfl ?_); refine gl (some 8) Try.func6 #[.agg #[.slice A0_0 l0_0.length c0_0, .slice A0_1 l0_1.length c0_1]] rfl ?_; (with_reducible refine (spec_UnitOk.calls k _ _ l0_0 _ _ l0_1 true _ ?side1 ?side2 ?side3 ?side4 A4.out).mono ?_); (case side1 => exact cb HR0_0.out); (case side2 => exact HC0_0.out); (case side3 => exact cb HR0_1.out); (case side4 => exact HC0_1.out); rintro e w11 ⟨rfl, hb⟩; refine ⟨_, rfl, ?_⟩; replace BK478 := kb BK478 hb; replace HB := hs HB hb; (try clear hb); obtain ⟨_,_,_,_⟩ := cf2 BK478) | (go_at_call 15; (with_reducible refine (spec_l6In.calls a1 0 (wrap64 ((l0_0.length : Int) - 1)) true _ A6.out).mono ?_); rintro e w' ⟨rfl, ⟨nd, rfl⟩⟩) | ((with_reducible refine gc 28 rfl ?_); refine gl (some 22) Try.func28 #[.agg #[.slice A0_0 l0_0.length c0_0, .slice A0_1 l0_1.length c0_1], .int .i64 a1, .int .i64 a2] rfl ?_; (with_reducible refine (spec_l3Find.calls k _ _ l0_0 _ _ l0_1 a1 a2 t481 _ ?side1 ?side2 ?side3 ?side4 A8.out).mono ?_); (case side1 => exact cb HR0_0.out); (case side2 => exact HC0_0.out); (case side3 => exact cb HR0_1.out); (case side4 => exact HC0_1.out); rintro e w13 ⟨rfl, hb⟩; refine ⟨_, rfl, ?_⟩; replace BK478 := kb BK478 hb; replace HB := hs HB hb; (try clear hb)))
   go_ret
   exact fin
  ·replace c7 := Bool.eq_false_iff.mpr c7
   subst c7
   replace H := ie H
   obtain rfl := Option.some.inj H; clear H
   go_enter Try.func10, Try.ntmps10
   go_wp2_with (first | ((with_reducible refine gd 3 rfl ?_); (try (refine gate_guard (by rfl) ?_; dsimp only)); refine bx 3 #[.slice A0_0 l0_0.length c0_0, .slice A0_1 l0_1.length c0_1] 31 ?_; intro gb478 hg w14 hbox hb; have BK478 := Aside0.mk hbox; have GW478 := hz HB hg; have GE478 := hz HB hg; replace HB := hs HB hb; clear hb hbox hg; obtain ⟨_,_,_,_⟩ := cf2 BK478) | ((with_reducible refine gc 6 rfl ?_); refine gl (some 8) Try.func6 #[.agg #[.slice A0_0 l0_0.length c0_0, .slice A0_1 l0_1.length c0_1]] rfl ?_; (with_reducible refine (spec_UnitOk.calls k _ _ l0_0 _ _ l0_1 true _ ?side1 ?side2 ?side3 ?side4 A4.out).mono ?_); (case side1 => exact cb HR0_0.out); (case side2 => exact HC0_0.out); (case side3 => exact cb HR0_1.out); (case side4 => exact HC0_1.out); rintro e w16 ⟨rfl, hb⟩; refine ⟨_, rfl, ?_⟩; replace BK478 := kb BK478 hb; replace HB := hs HB hb; (try clear hb); obtain ⟨_,_,_,_⟩ := cf2 BK478) | (go_at_call 15; (with_reducible refine (spec_l6In.calls a1 0 (wrap64 ((l0_0.length : Int) - 1)) false _ A6.out).mono ?_); rintro e w' ⟨rfl, ⟨nd, rfl⟩⟩))
   go_ret
   exact fin
 ·replace c5 := Bool.eq_false_iff.mpr c5
  subst c5
  replace H := ie H
  obtain rfl := Option.some.inj H; clear H
  go_enter Try.func10, Try.ntmps10
  go_wp2_with (first | ((with_reducible refine gd 3 rfl ?_); (try (refine gate_guard (by rfl) ?_; dsimp only)); refine bx 3 #[.slice A0_0 l0_0.length c0_0, .slice A0_1 l0_1.length c0_1] 31 ?_; intro gb478 hg w18 hbox hb; have BK478 := Aside0.mk hbox; have GW478 := hz HB hg; have GE478 := hz HB hg; replace HB := hs HB hb; clear hb hbox hg; obtain ⟨_,_,_,_⟩ := cf2 BK478) | ((with_reducible refine gc 6 rfl ?_); refine gl (some 8) Try.func6 #[.agg #[.slice A0_0 l0_0.length c0_0, .slice A0_1 l0_1.length c0_1]] rfl ?_; (with_reducible refine (spec_UnitOk.calls k _ _ l0_0 _ _ l0_1 false _ ?side1 ?side2 ?side3 ?side4 A4.out).mono ?_); (case side1 => exact cb HR0_0.out); (case side2 => exact HC0_0.out); (case side3 => exact cb HR0_1.out); (case side4 => exact HC0_1.out); rintro e w20 ⟨rfl, hb⟩; refine ⟨_, rfl, ?_⟩; replace BK478 := kb BK478 hb; replace HB := hs HB hb; (try clear hb)))
  go_ret
  exact fin
end Go.Proofs.Ytedodaifpekahaa.P

end
section

namespace Go.Proofs.Ytedodaifpekahaa.P
open Go.RowKit Go.Proofs.YtedodaifpekahaaW.PrintWords Go.Proofs.YtedodaifpekahaaW.PrintLast Go.Proofs.YtedodaifpekahaaW.PrintMore
attribute [local go_sem] max2_int min2_int max_two min_two max_three min_three max_four min_four
set_option linter.unusedVariables false
set_option linter.unusedSimpArgs false
set_option maxHeartbeats 8000000 in
set_option maxRecDepth 100000 in
theorem impl_isClass.calls (A0 : Option Addr) (c0 : Nat) (l0 : List (S76)) (a1 : Int) (r : Bool) (w : World) (hr0 : Kd.C k76 w A0 l0.length l0) (hc0 : l0.length ≤ c0) (h : impl_isClass.f l0 a1 = some r) :
  Calls Try.prog 29 #[.slice A0 l0.length c0, .int .i64 a1] w fun e w' => e = .returned (.bool r) ∧ Drawn0 w w' := by
 have HR0 := Aside0.mk hr0
 have HC0 := Aside0.mk hc0
 clear hr0 hc0
 have H : (if a1 ≥ 0 then (some (decide (a1 < (l0.length : Int)))) else (some false)) = some r := h
 clear h
 by_cases c3 : a1 ≥ 0
 ·rw [if_pos c3] at H
  have c3b0 : decide (0 ≤ a1) = true := decide_eq_true c3
  clear c3
  obtain rfl := Option.some.inj H; clear H
  go_enter Try.func29, Try.ntmps29
  go_wp2
  go_ret
  exact ⟨by first | rfl | (simp; done) | (simp [*]; done), by repeat (first | exact Drawn0.refl _ | apply Drawn0.step)⟩
 ·rw [if_neg c3] at H
  have c3b0 : decide (0 ≤ a1) = false := decide_eq_false c3
  clear c3
  obtain rfl := Option.some.inj H; clear H
  go_enter Try.func29, Try.ntmps29
  go_wp2
  go_ret
  exact ⟨by first | rfl | (simp; done) | (simp [*]; done), by repeat (first | exact Drawn0.refl _ | apply Drawn0.step)⟩
end Go.Proofs.Ytedodaifpekahaa.P

end
section

namespace Go.Proofs.Ytedodaifpekahaa.P
open Go.RowKit Go.Proofs.YtedodaifpekahaaW.PrintWords Go.Proofs.YtedodaifpekahaaW.PrintLast Go.Proofs.YtedodaifpekahaaW.PrintMore
attribute [local go_sem] max2_int min2_int max_two min_two max_three min_three max_four min_four
set_option linter.unusedVariables false
set_option linter.unusedSimpArgs false
set_option maxHeartbeats 8000000 in
set_option maxRecDepth 100000 in
theorem impl_unitFind.calls (k : Nat) (A0_0 : Option Addr) (c0_0 : Nat) (l0_0 : List (S76)) (A0_1 : Option Addr) (c0_1 : Nat) (l0_1 : List (S46)) (a1 : Int) (a2 : Int) (r : Int) (w : World) (hr0_0 : Kd.C k76 w A0_0 l0_0.length l0_0) (hc0_0 : l0_0.length ≤ c0_0) (hr0_1 : Kd.C k46 w A0_1 l0_1.length l0_1) (hc0_1 : l0_1.length ≤ c0_1) (h : impl_unitFind.f k l0_0 l0_1 a1 a2 = some r) :
  Calls Try.prog 30 #[.agg #[.slice A0_0 l0_0.length c0_0, .slice A0_1 l0_1.length c0_1], .int .i64 a1, .int .i64 a2] w fun e w' => e = .returned (.int .i64 r) ∧ Below w.heap.size w w' := by
 have hu31 := Try.underlying31
 have hu46 := Try.underlying46
 have HR0_0 := Aside0.mk hr0_0
 have HC0_0 := Aside0.mk hc0_0
 clear hr0_0 hc0_0
 have HR0_1 := Aside0.mk hr0_1
 have HC0_1 := Aside0.mk hc0_1
 clear hr0_1 hc0_1
 have HB := Aside0.mk (Below.refl w.heap.size w)
 have H : (impl_unitFind.l0 k a2 a1 l0_0 l0_1) = some r := h
 clear h
 have H' := Aside0.mk H
 clear H
 go_enter Try.func30, Try.ntmps30
 go_wp2_with (first | ((with_reducible refine gd 3 rfl ?_); refine bx 3 #[.slice A0_0 l0_0.length c0_0, .slice A0_1 l0_1.length c0_1] 31 ?_; intro gb482 hg w4 hbox hb; have BK482 := Aside0.mk hbox; have GW482 := hz HB hg; have GE482 := hz HB hg; replace HB := hs HB hb; clear hb hbox hg))
 go_loopg [7] k (fun kq v7 w' => ∃ (x7_1 : Int), v7 = .int .i64 x7_1 ∧ Aside0 (impl_unitFind.l0 kq a2 x7_1 l0_0 l0_1 = some r) ∧ Aside0 (kq ≤ k) ∧ Aside0 (w'.heap[gb482]? = some (.cells #[(.slice A0_0 l0_0.length c0_0), (.slice A0_1 l0_1.length c0_1)] 31 (0, 0))) ∧ Aside0 (Below w.heap.size w w'))
 case atStart => exact ⟨(a1), (by first | rfl | (simp; done) | (simp [*]; done)), H', ⟨Nat.le_refl _⟩, kk BK482, ⟨bl⟩⟩
 case round =>
  clear H'
  obtain ⟨x7_1, rfl, HA, HK1, BK482, HB⟩ := hrel
  cases gk with
  | zero => exact absurd HA.out (by simp [impl_unitFind.l0])
  | succ k1 =>
   have H := HA.out
   clear HA
   simp only [impl_unitFind.l0] at H
   by_cases c5 : x7_1 ≥ 0
   ·rw [if_pos c5] at H
    have c5b0 : decide (0 ≤ x7_1) = true := decide_eq_true c5
    clear c5
    have H' := Aside0.mk H
    clear H
    obtain ⟨_,_,_,_⟩ := cf2 BK482
    go_wp2
    go_loopg [22] k1 (fun kq v22 w' => ∃ (x22_2 : Int), v22 = .int .i64 x22_2 ∧ Aside0 (impl_unitFind.l1 kq a2 x7_1 l0_1 (l0_1.length : Int) x22_2 l0_0 l0_1 = some r) ∧ Aside0 (kq ≤ k1) ∧ Aside0 (w'.heap[gb482]? = some (.cells #[(.slice A0_0 l0_0.length c0_0), (.slice A0_1 l0_1.length c0_1)] 31 (0, 0))) ∧ Aside0 (Below w.heap.size w w'))
    case atStart => exact ⟨(0), (by first | rfl | (simp; done) | (simp [*]; done)), H', ⟨Nat.le_refl _⟩, kk BK482, ⟨bl⟩⟩
    case round =>
     clear H'
     obtain ⟨x22_2, rfl, HA, HK2, BK482, HB⟩ := hrel
     cases gk with
     | zero => exact absurd HA.out (by simp [impl_unitFind.l1])
     | succ k2 =>
      have H := HA.out
      clear HA
      simp only [impl_unitFind.l1] at H
      by_cases c7 : x22_2 < (l0_1.length : Int)
      ·rw [if_pos c7] at H
       have c7b0 : decide (x22_2 < (l0_1.length : Int)) = true := decide_eq_true c7
       clear c7
       by_cases c8 : 0 ≤ x22_2
       ·rw [if_pos c8] at H
        have c8b0 : decide (0 ≤ x22_2) = true := decide_eq_true c8
        clear c8
        by_cases c9 : x22_2 < (l0_1.length : Int)
        ·rw [if_pos c9] at H
         have c9b0 : decide (x22_2 < (l0_1.length : Int)) = true := decide_eq_true c9
         clear c9
         by_cases c10 : ((rd_T46 l0_1 x22_2).f0) = x7_1
         ·rw [if_pos c10] at H
          have c10b0 := beq_iff_eq.mpr c10
          have c10b1 := bne_eq_false_iff_eq.mpr c10
          clear c10
          by_cases c11 : ((rd_T46 l0_1 x22_2).f1) = a2
          ·rw [if_pos c11] at H
           have c11b0 := beq_iff_eq.mpr c11
           have c11b1 := bne_eq_false_iff_eq.mpr c11
           clear c11
           obtain rfl := Option.some.inj H; clear H
           have p483 : 0 ≤ (x22_2 : Int) := od
           have q483 : x22_2 < (l0_1.length : Int) := od
           obtain ⟨ad483, A483_2, c483_2, A483_5, c483_5, A483_6, c483_6, A483_7, c483_7, e483, hx483_0, hx483_1, hx483_2, hx483_3, hx483_4, hx483_5, hx483_6, hx483_7, hl483_2, hi483_2, hl483_5, hi483_5, hl483_6, hi483_6, hl483_7, hi483_7⟩ := at_T46 HR0_1.out x22_2 p483 q483
           cases e483
           obtain ⟨hx483_0,hx483_1,hx483_2,hx483_3,hx483_4,hx483_5,hx483_6,hx483_7⟩ := hc8 HB hx483_0 hx483_1 hx483_2 hx483_3 hx483_4 hx483_5 hx483_6 hx483_7
           have HR483_2 := Aside0.mk hi483_2
           have HC483_2 := Aside0.mk hl483_2
           clear hi483_2 hl483_2
           have HR483_5 := Aside0.mk hi483_5
           have HC483_5 := Aside0.mk hl483_5
           clear hi483_5 hl483_5
           have HR483_6 := Aside0.mk hi483_6
           have HC483_6 := Aside0.mk hl483_6
           clear hi483_6 hl483_6
           have HR483_7 := Aside0.mk hi483_7
           have HC483_7 := Aside0.mk hl483_7
           clear hi483_7 hl483_7
           replace p483 := eq_true p483
           replace q483 := eq_true q483
           go_wp2
           go_ret
           exact fin
          ·rw [if_neg c11] at H
           have c11b0 := beq_eq_false_iff_ne.mpr c11
           have c11b1 := bne_iff_ne.mpr c11
           have H' := Aside0.mk H
           clear H
           have p483 : 0 ≤ (x22_2 : Int) := od
           have q483 : x22_2 < (l0_1.length : Int) := od
           obtain ⟨ad483, A483_2, c483_2, A483_5, c483_5, A483_6, c483_6, A483_7, c483_7, e483, hx483_0, hx483_1, hx483_2, hx483_3, hx483_4, hx483_5, hx483_6, hx483_7, hl483_2, hi483_2, hl483_5, hi483_5, hl483_6, hi483_6, hl483_7, hi483_7⟩ := at_T46 HR0_1.out x22_2 p483 q483
           cases e483
           obtain ⟨hx483_0,hx483_1,hx483_2,hx483_3,hx483_4,hx483_5,hx483_6,hx483_7⟩ := hc8 HB hx483_0 hx483_1 hx483_2 hx483_3 hx483_4 hx483_5 hx483_6 hx483_7
           have HR483_2 := Aside0.mk hi483_2
           have HC483_2 := Aside0.mk hl483_2
           clear hi483_2 hl483_2
           have HR483_5 := Aside0.mk hi483_5
           have HC483_5 := Aside0.mk hl483_5
           clear hi483_5 hl483_5
           have HR483_6 := Aside0.mk hi483_6
           have HC483_6 := Aside0.mk hl483_6
           clear hi483_6 hl483_6
           have HR483_7 := Aside0.mk hi483_7
           have HC483_7 := Aside0.mk hl483_7
           clear hi483_7 hl483_7
           replace p483 := eq_true p483
           replace q483 := eq_true q483
           go_wp2
           go_roundg k2
           case measure => have := HK1.out; have := HK2.out; omega
           case rel => exact ⟨(wrap64 (x22_2 + 1)), (by first | rfl | (simp; done) | (simp [*]; done)), H', ⟨by have := HK1.out; have := HK2.out; omega⟩, kf, ⟨bl⟩⟩
         ·rw [if_neg c10] at H
          have c10b0 := beq_eq_false_iff_ne.mpr c10
          have c10b1 := bne_iff_ne.mpr c10
          have H' := Aside0.mk H
          clear H
          have p483 : 0 ≤ (x22_2 : Int) := od
          have q483 : x22_2 < (l0_1.length : Int) := od
          obtain ⟨ad483, A483_2, c483_2, A483_5, c483_5, A483_6, c483_6, A483_7, c483_7, e483, hx483_0, hx483_1, hx483_2, hx483_3, hx483_4, hx483_5, hx483_6, hx483_7, hl483_2, hi483_2, hl483_5, hi483_5, hl483_6, hi483_6, hl483_7, hi483_7⟩ := at_T46 HR0_1.out x22_2 p483 q483
          cases e483
          obtain ⟨hx483_0,hx483_1,hx483_2,hx483_3,hx483_4,hx483_5,hx483_6,hx483_7⟩ := hc8 HB hx483_0 hx483_1 hx483_2 hx483_3 hx483_4 hx483_5 hx483_6 hx483_7
          have HR483_2 := Aside0.mk hi483_2
          have HC483_2 := Aside0.mk hl483_2
          clear hi483_2 hl483_2
          have HR483_5 := Aside0.mk hi483_5
          have HC483_5 := Aside0.mk hl483_5
          clear hi483_5 hl483_5
          have HR483_6 := Aside0.mk hi483_6
          have HC483_6 := Aside0.mk hl483_6
          clear hi483_6 hl483_6
          have HR483_7 := Aside0.mk hi483_7
          have HC483_7 := Aside0.mk hl483_7
          clear hi483_7 hl483_7
          replace p483 := eq_true p483
          replace q483 := eq_true q483
          go_wp2
          go_roundg k2
          case measure => have := HK1.out; have := HK2.out; omega
          case rel => exact ⟨(wrap64 (x22_2 + 1)), (by first | rfl | (simp; done) | (simp [*]; done)), H', ⟨by have := HK1.out; have := HK2.out; omega⟩, kf, ⟨bl⟩⟩
        ·rw [if_neg c9] at H
         exact absurd H (by simp)
       ·rw [if_neg c8] at H
        exact absurd H (by simp)
      ·rw [if_neg c7] at H
       have c7b0 : decide (x22_2 < (l0_1.length : Int)) = false := decide_eq_false c7
       clear c7
       by_cases c21 : 0 ≤ x7_1
       ·rw [if_pos c21] at H
        have c21b0 : decide (0 ≤ x7_1) = true := decide_eq_true c21
        clear c21
        by_cases c22 : x7_1 < (l0_0.length : Int)
        ·rw [if_pos c22] at H
         have c22b0 : decide (x7_1 < (l0_0.length : Int)) = true := decide_eq_true c22
         clear c22
         have H' := Aside0.mk H
         clear H
         obtain ⟨_,_,_,_⟩ := cf2 BK482
         have p485 : 0 ≤ (x7_1 : Int) := od
         have q485 : x7_1 < (l0_0.length : Int) := od
         obtain ⟨ad485, A485_1, c485_1, e485, hx485_0, hx485_1, hl485_1, hi485_1⟩ := at_T76 HR0_0.out x7_1 p485 q485
         cases e485
         obtain ⟨hx485_0,hx485_1⟩ := hc2 HB hx485_0 hx485_1
         have HR485_1 := Aside0.mk hi485_1
         have HC485_1 := Aside0.mk hl485_1
         clear hi485_1 hl485_1
         replace p485 := eq_true p485
         replace q485 := eq_true q485
         go_wp2
         go_roundg k2
         case measure => have := HK1.out; have := HK2.out; omega
         case rel => exact ⟨((rd_T76 l0_0 x7_1).f0), (by first | rfl | (simp; done) | (simp [*]; done)), H', ⟨by have := HK1.out; have := HK2.out; omega⟩, kk BK482, ⟨bl⟩⟩
        ·rw [if_neg c22] at H
         exact absurd H (by simp)
       ·rw [if_neg c21] at H
        exact absurd H (by simp)
   ·rw [if_neg c5] at H
    have c5b0 : decide (0 ≤ x7_1) = false := decide_eq_false c5
    clear c5
    obtain rfl := Option.some.inj H; clear H
    go_wp2
    go_ret
    exact fin
end Go.Proofs.Ytedodaifpekahaa.P

end
section

namespace Go.Proofs.Ytedodaifpekahaa.P
open Go Go.RowKit Go.Proofs.YtedodaifpekahaaW.PrintWords
set_option linter.unusedVariables false
set_option maxRecDepth 100000
set_option linter.unusedSimpArgs false
theorem kindW_8 {r : Int} (h : 8 ≤ r) : kindW r = .iface 106 (.agg #[.int .i64 (r - 8)]) := by
  unfold kindW
  rw [if_neg (by omega), if_neg (by omega), if_neg (by omega), if_neg (by omega), if_neg (by omega), if_neg (by omega)]
set_option maxHeartbeats 2000000 in
set_option maxRecDepth 100000 in
theorem impl_kindOf.calls' (a0 a1 r : Int) (w : World) (h : impl_kindOf.f a0 a1 = some r) :
    Calls Try.prog 62 #[.int .i64 a0, .int .i64 a1] w fun e w' => e = .returned (kindW r) ∧ w = w' := by
  unfold impl_kindOf.f at h
  split at h
  · rename_i hb
    obtain ⟨h0, h1, h2, h3⟩ := hb
    by_cases c0 : a1 = 0
    · subst c0
      obtain rfl : 0 = r := by simpa using h
      go_enter Try.func62, Try.ntmps62
      go_wp2
      go_ret
      exact ⟨rfl, rfl⟩
    by_cases c1 : a1 = 1
    · subst c1
      obtain rfl : 1 = r := by simpa using h
      go_enter Try.func62, Try.ntmps62
      go_wp2
      go_ret
      exact ⟨rfl, rfl⟩
    by_cases c2 : a1 = 2
    · subst c2
      obtain rfl : 2 = r := by simpa using h
      go_enter Try.func62, Try.ntmps62
      go_wp2
      go_ret
      exact ⟨rfl, rfl⟩
    by_cases c3 : a1 = 3
    · subst c3
      obtain rfl : 3 = r := by simpa using h
      go_enter Try.func62, Try.ntmps62
      go_wp2
      go_ret
      exact ⟨rfl, rfl⟩
    by_cases c4 : a1 = 4
    · subst c4
      obtain rfl : 4 = r := by simpa using h
      go_enter Try.func62, Try.ntmps62
      go_wp2
      go_ret
      exact ⟨rfl, rfl⟩
    rw [if_neg c0, if_neg c1, if_neg c2, if_neg c3, if_neg c4] at h
    have b0 : (a1 == 0) = false := by simpa using c0
    have b1 : (a1 == 1) = false := by simpa using c1
    have b2 : (a1 == 2) = false := by simpa using c2
    have b3 : (a1 == 3) = false := by simpa using c3
    have b4 : (a1 == 4) = false := by simpa using c4
    clear c0 c1 c2 c3 c4
    by_cases c5 : 8 ≤ a1
    · by_cases c6 : a1 < 8 + a0
      · rw [if_pos ⟨c5, c6⟩] at h
        obtain rfl := Option.some.inj h
        have H8 := Aside0.mk (kindW_8 c5)
        clear h
        go_enter Try.func62, Try.ntmps62
        go_wp2
        go_ret
        exact ⟨by rw [H8.out]; rfl, rfl⟩
      · rw [if_neg (by omega)] at h
        obtain rfl := Option.some.inj h
        go_enter Try.func62, Try.ntmps62
        go_wp2
        go_ret
        exact ⟨rfl, rfl⟩
    · rw [if_neg (by omega)] at h
      obtain rfl := Option.some.inj h
      go_enter Try.func62, Try.ntmps62
      go_wp2
      go_ret
      exact ⟨rfl, rfl⟩
  · cases h
theorem impl_kindOf.calls (a0 a1 r : Int) (w : World) (h : impl_kindOf.f a0 a1 = some r) :
    Calls Try.prog 62 #[.int .i64 a0, .int .i64 a1] w fun e w' => e = .returned (kindW r) ∧ Drawn0 w w' :=
  (impl_kindOf.calls' a0 a1 r w h).mono fun e w' ⟨he, hw⟩ => ⟨he, hw ▸ Drawn0.refl w⟩
theorem kindOf_cases {c t r : Int} (h : impl_kindOf.f c t = some r) : r = -1 ∨ r = 0 ∨ r = 1 ∨ r = 2 ∨ r = 3 ∨ r = 4 ∨ (8 ≤ r ∧ r < 8 + c) := by
  unfold impl_kindOf.f at h
  split at h
  · repeat' split at h
    all_goals (have := Option.some.inj h; omega)
  · cases h
set_option maxRecDepth 100000 in
theorem kindEql (r : Int) (W : World) : (binOp .eql 99 (kindW r) .nilIface).run Try.prog W = .ok (.bool (r == -1)) W := by
  by_cases h : r = -1
  · subst h; rfl
  · have e : (r == -1) = false := by simpa using h
    rw [e]
    unfold kindW
    rw [if_neg h]
    repeat' split
    all_goals rfl
set_option maxRecDepth 100000 in
theorem kindNeq (r : Int) (W : World) : (binOp .neq 99 (kindW r) .nilIface).run Try.prog W = .ok (.bool (r != -1)) W := by
  by_cases h : r = -1
  · subst h; rfl
  · have e : (r != -1) = true := by simpa using h
    rw [e]
    unfold kindW
    rw [if_neg h]
    repeat' split
    all_goals rfl
theorem kindIface {r : Int} (h : r ≠ -1) : ∃ u x, kindW r = .iface u x := by
  unfold kindW
  rw [if_neg h]
  repeat' split
  all_goals exact ⟨_, _, rfl⟩
theorem guardNilE (r : Int) (t : TypeId) (o : Operand) (W : World) : (eqGuard .eql t o (.const .nilIface) (kindW r) .nilIface).run Try.prog W = .ok () W := by
  by_cases h : r = -1
  · subst h
    cases o <;> rfl
  · obtain ⟨u, x, e⟩ := kindIface h
    rw [e]; rfl
theorem guardNilN (r : Int) (t : TypeId) (o : Operand) (W : World) : (eqGuard .neq t o (.const .nilIface) (kindW r) .nilIface).run Try.prog W = .ok () W := by
  by_cases h : r = -1
  · subst h
    cases o <;> rfl
  · obtain ⟨u, x, e⟩ := kindIface h
    rw [e]; rfl
def KindNo (r : Int) : Prop := r = -1 ∨ r = 0 ∨ r = 1 ∨ r = 2 ∨ r = 3 ∨ r = 4 ∨ 8 ≤ r
theorem assertInt {r : Int} (h : KindNo r) (W : World) : (Instr.typeAssert (kindW r) 99 102 true).run Try.prog W = .ok (.tuple #[.agg #[], .bool (r == 1)]) W := by
  rcases h with rfl | rfl | rfl | rfl | rfl | rfl | h
  all_goals try rfl
  rw [kindW_8 h, show (r == 1) = false by simp; omega]; rfl
theorem assertArray {r : Int} (h : KindNo r) (W : World) : (Instr.typeAssert (kindW r) 99 104 true).run Try.prog W = .ok (.tuple #[.agg #[.bool (r == 4)], .bool (r == 3 || r == 4)]) W := by
  rcases h with rfl | rfl | rfl | rfl | rfl | rfl | h
  all_goals try rfl
  rw [kindW_8 h, show (r == 3) = false by simp; omega, show (r == 4) = false by simp; omega]; rfl
theorem assertClass {r : Int} (h : KindNo r) (W : World) : (Instr.typeAssert (kindW r) 99 106 true).run Try.prog W = .ok (.tuple #[.agg #[.int .i64 (if 8 ≤ r then r - 8 else 0)], .bool (decide (8 ≤ r))]) W := by
  rcases h with rfl | rfl | rfl | rfl | rfl | rfl | h
  all_goals try rfl
  rw [kindW_8 h, if_pos h, decide_eq_true h]; rfl
set_option maxHeartbeats 2000000 in
set_option maxRecDepth 100000 in
theorem impl_fieldType.calls (a0 a1 : Int) (r : Bool) (w : World) (h : impl_fieldType.f a0 a1 = some r) :
    Calls Try.prog 42 #[.int .i64 a0, .int .i64 a1] w fun e w' => e = .returned (.bool r) ∧ Drawn0 w w' := by
  unfold impl_fieldType.f at h
  obtain ⟨q, hq, hr⟩ := Option.bind_eq_some_iff.1 h
  obtain rfl := Option.some.inj hr
  clear h hr
  have hc : KindNo q := by have := kindOf_cases hq; unfold KindNo; omega
  have A := Aside0.mk hq
  clear hq
  have s1 := assertInt hc
  have s2 := assertArray hc
  have s3 := assertClass hc
  have b : (q == 1 || (q == 3 || q == 4) || decide (8 ≤ q)) = decide (q = 1 ∨ q = 3 ∨ q = 4 ∨ 8 ≤ q) := by
    rw [Bool.eq_iff_iff]; simp; omega
  have B := Aside0.mk b
  clear b hc
  rw [← B.out]
  clear B
  by_cases h1 : q = 1
  · subst h1
    go_enter Try.func42, Try.ntmps42
    go_wp2_with (go_at_call 62; refine (impl_kindOf.calls' _ _ _ _ A.out).mono ?_; rintro e w' ⟨rfl, rfl⟩)
    go_ret
    exact ⟨rfl, Drawn0.refl _⟩
  · have b1 : (q == 1) = false := by simpa using h1
    by_cases h2 : (q == 3 || q == 4) = true
    · go_enter Try.func42, Try.ntmps42
      go_wp2_with (go_at_call 62; refine (impl_kindOf.calls' _ _ _ _ A.out).mono ?_; rintro e w' ⟨rfl, rfl⟩)
      all_goals go_ret
      all_goals exact ⟨by simp [h2], Drawn0.refl _⟩
    · have b2 : (q == 3 || q == 4) = false := by simpa using h2
      by_cases h3 : 8 ≤ q
      · have b3 : decide (8 ≤ q) = true := decide_eq_true h3
        go_enter Try.func42, Try.ntmps42
        go_wp2_with (go_at_call 62; refine (impl_kindOf.calls' _ _ _ _ A.out).mono ?_; rintro e w' ⟨rfl, rfl⟩)
        all_goals go_ret
        all_goals exact ⟨by simp [*], Drawn0.refl _⟩
      · have b3 : decide (8 ≤ q) = false := decide_eq_false h3
        go_enter Try.func42, Try.ntmps42
        go_wp2_with (go_at_call 62; refine (impl_kindOf.calls' _ _ _ _ A.out).mono ?_; rintro e w' ⟨rfl, rfl⟩)
        all_goals go_ret
        all_goals exact ⟨by simp [*], Drawn0.refl _⟩
end Go.Proofs.Ytedodaifpekahaa.P

end
section

namespace Go.Proofs.Ytedodaifpekahaa.P
open Go.RowKit Go.Proofs.YtedodaifpekahaaW.PrintWords Go.Proofs.YtedodaifpekahaaW.PrintLast Go.Proofs.YtedodaifpekahaaW.PrintMore
attribute [local go_sem] max2_int min2_int max_two min_two max_three min_three max_four min_four
set_option linter.unusedVariables false
set_option linter.unusedSimpArgs false
set_option maxHeartbeats 8000000 in
set_option maxRecDepth 100000 in
theorem impl_ClassesOk.calls (k : Nat) (A0 : Option Addr) (c0 : Nat) (l0 : List (S76)) (r : Bool) (w : World) (hr0 : Kd.C k76 w A0 l0.length l0) (hc0 : l0.length ≤ c0) (h : impl_ClassesOk.f k l0 = some r) :
  Calls Try.prog 20 #[.slice A0 l0.length c0] w fun e w' => e = .returned (.bool r) ∧ Below w.heap.size w w' := by
 have hu76 := Try.underlying76
 have HR0 := Aside0.mk hr0
 have HC0 := Aside0.mk hc0
 clear hr0 hc0
 have HB := Aside0.mk (Below.refl w.heap.size w)
 have H : (if (l0.length : Int) < 2 then (impl_ClassesOk.j0 k l0 true) else (impl_ClassesOk.j0 k l0 (decide ((l0.length : Int) > 5)))) = some r := h
 clear h
 have HC2 := Aside0.mk H
 clear H
 go_enter Try.func20, Try.ntmps20
 go_upto_region 1 with (fail)
 go_cut [15] (fun v15 wc => ∃ (kq : Nat) (x15_1 : Bool), v15 = .bool x15_1 ∧ Aside0 (impl_ClassesOk.j0 kq l0 x15_1 = some r) ∧ Aside0 (kq ≤ k) ∧ Aside0 (Below w.heap.size w wc))
 case first =>
  have H := HC2.out
  clear HC2
  by_cases c3 : (l0.length : Int) < 2
  ·rw [if_pos c3] at H
   have c3b0 : decide ((l0.length : Int) < 2) = true := decide_eq_true c3
   have c3b1 : decide (l0.length < 2) = true := decide_eq_true (by omega)
   clear c3
   (first | rw [c3b0] | (simp only [i64_w, i32_w]; rw [c3b0]) | skip)
   have H' := Aside0.mk H
   clear H
   go_wp2
   go_meet
   case rel => exact ⟨_, (true), (by first | rfl | (simp; done) | (simp [*]; done)), H', ⟨by first | omega | exact Nat.le_refl _⟩, ⟨bl⟩⟩
  ·rw [if_neg c3] at H
   have c3b0 : decide ((l0.length : Int) < 2) = false := decide_eq_false c3
   have c3b1 : decide (l0.length < 2) = false := decide_eq_false (by omega)
   clear c3
   (first | rw [c3b0] | (simp only [i64_w, i32_w]; rw [c3b0]) | skip)
   have H' := Aside0.mk H
   clear H
   go_wp2
   go_meet
   case rel => exact ⟨_, (decide ((l0.length : Int) > 5)), (by first | rfl | (simp; done) | (simp [*]; done)), H', ⟨by first | omega | exact Nat.le_refl _⟩, ⟨bl⟩⟩
 case rest =>
  clear HC2
  obtain ⟨kq, x15_1, rfl, HA, HJ1, HB⟩ := hcut
  cases kq with
  | zero => exact absurd HA.out (by simp [impl_ClassesOk.j0])
  | succ kj1 =>
   have H := HA.out
   clear HA
   simp only [impl_ClassesOk.j0] at H
   by_cases c4 : x15_1 = true
   ·subst c4
    replace H := it H
    obtain rfl := Option.some.inj H; clear H
    go_wp2
    go_ret
    exact fin
   ·replace c4 := Bool.eq_false_iff.mpr c4
    subst c4
    replace H := ie H
    have HC5 := Aside0.mk H
    clear H
    go_upto_region 3 with (fail)
    go_cut [28] (fun v28 wc => ∃ (kq : Nat) (x28_4 : Bool), v28 = .bool x28_4 ∧ Aside0 (impl_ClassesOk.j1 kq l0 x28_4 = some r) ∧ Aside0 (kq ≤ kj1) ∧ Aside0 (Below w.heap.size w wc))
    case first =>
     have H := HC5.out
     clear HC5
     by_cases c6 : 0 < (l0.length : Int)
     ·rw [if_pos c6] at H
      have c6b0 : decide (0 < (l0.length : Int)) = true := decide_eq_true c6
      have c6b1 : decide (0 < l0.length) = true := decide_eq_true (by omega)
      clear c6
      (first | rw [c6b0] | (simp only [i64_w, i32_w]; rw [c6b0]) | skip)
      by_cases c7 : ((rd_T76 l0 0).f0) = (-1)
      ·rw [if_pos c7] at H
       have c7b0 := beq_iff_eq.mpr c7
       have c7b1 := bne_eq_false_iff_eq.mpr c7
       clear c7
       have H' := Aside0.mk H
       clear H
       have p322 : 0 ≤ (0 : Int) := (by omega)
       have q322 : 0 < (l0.length : Int) := od
       obtain ⟨ad322, A322_1, c322_1, e322, hx322_0, hx322_1, hl322_1, hi322_1⟩ := at_T76 HR0.out 0 p322 q322
       cases e322
       have qi322 : (0 < l0.length) = True := eq_true (by omega)
       (try rw [show ((0 : Int)).toNat = 0 from rfl] at hx322_0)
       (try rw [show 0 * 2 = 0 from rfl] at hx322_0)
       (try rw [Addr.add_zero'] at hx322_0)
       (try rw [show ((0 : Int)).toNat = 0 from rfl] at hx322_1)
       (try rw [show 0 * 2 = 0 from rfl] at hx322_1)
       (try rw [Addr.add_zero'] at hx322_1)
       obtain ⟨hx322_0,hx322_1⟩ := hc2 HB hx322_0 hx322_1
       have HR322_1 := Aside0.mk hi322_1
       have HC322_1 := Aside0.mk hl322_1
       clear hi322_1 hl322_1
       replace p322 := eq_true p322
       replace q322 := eq_true q322
       have p323 : 0 ≤ (0 : Int) := (by omega)
       have q323 : 0 < (l0.length : Int) := od
       obtain ⟨ad323, A323_1, c323_1, e323, hx323_0, hx323_1, hl323_1, hi323_1⟩ := at_T76 HR0.out 0 p323 q323
       obtain rfl : ad322 = ad323 := (by injection e323)
       have qi323 : (0 < l0.length) = True := eq_true (by omega)
       (try rw [show ((0 : Int)).toNat = 0 from rfl] at hx323_0)
       (try rw [show 0 * 2 = 0 from rfl] at hx323_0)
       (try rw [Addr.add_zero'] at hx323_0)
       (try rw [show ((0 : Int)).toNat = 0 from rfl] at hx323_1)
       (try rw [show 0 * 2 = 0 from rfl] at hx323_1)
       (try rw [Addr.add_zero'] at hx323_1)
       obtain ⟨hx323_0,hx323_1⟩ := hc2 HB hx323_0 hx323_1
       have HR323_1 := Aside0.mk hi323_1
       have HC323_1 := Aside0.mk hl323_1
       clear hi323_1 hl323_1
       replace p323 := eq_true p323
       replace q323 := eq_true q323
       have ea_ := Option.some.inj (hx322_1.symm.trans hx323_1)
       injection ea_ with ea_ en_ ec_
       subst ea_
       subst ec_
       clear en_
       go_wp2
       go_meet
       case rel => exact ⟨_, (((((rd_T76 l0 0).f1).length : Int) != 0)), (by first | rfl | (simp; done) | (simp [*]; done)), H', ⟨by have := HJ1.out; first | omega | exact Nat.le_refl _⟩, ⟨bl⟩⟩
      ·rw [if_neg c7] at H
       have c7b0 := beq_eq_false_iff_ne.mpr c7
       have c7b1 := bne_iff_ne.mpr c7
       have H' := Aside0.mk H
       clear H
       have p322 : 0 ≤ (0 : Int) := (by omega)
       have q322 : 0 < (l0.length : Int) := od
       obtain ⟨ad322, A322_1, c322_1, e322, hx322_0, hx322_1, hl322_1, hi322_1⟩ := at_T76 HR0.out 0 p322 q322
       cases e322
       have qi322 : (0 < l0.length) = True := eq_true (by omega)
       (try rw [show ((0 : Int)).toNat = 0 from rfl] at hx322_0)
       (try rw [show 0 * 2 = 0 from rfl] at hx322_0)
       (try rw [Addr.add_zero'] at hx322_0)
       (try rw [show ((0 : Int)).toNat = 0 from rfl] at hx322_1)
       (try rw [show 0 * 2 = 0 from rfl] at hx322_1)
       (try rw [Addr.add_zero'] at hx322_1)
       obtain ⟨hx322_0,hx322_1⟩ := hc2 HB hx322_0 hx322_1
       have HR322_1 := Aside0.mk hi322_1
       have HC322_1 := Aside0.mk hl322_1
       clear hi322_1 hl322_1
       replace p322 := eq_true p322
       replace q322 := eq_true q322
       go_wp2
       go_meet
       case rel => exact ⟨_, (true), (by first | rfl | (simp; done) | (simp [*]; done)), H', ⟨by have := HJ1.out; first | omega | exact Nat.le_refl _⟩, ⟨bl⟩⟩
     ·rw [if_neg c6] at H
      exact absurd H (by simp)
    case rest =>
     clear HC5
     obtain ⟨kq, x28_4, rfl, HA, HJ4, HB⟩ := hcut
     cases kq with
     | zero => exact absurd HA.out (by simp [impl_ClassesOk.j1])
     | succ kj4 =>
      have H := HA.out
      clear HA
      simp only [impl_ClassesOk.j1] at H
      by_cases c8 : x28_4 = true
      ·subst c8
       replace H := it H
       obtain rfl := Option.some.inj H; clear H
       go_wp2
       go_ret
       exact fin
      ·replace c8 := Bool.eq_false_iff.mpr c8
       subst c8
       replace H := ie H
       by_cases c9 : 1 < (l0.length : Int)
       ·rw [if_pos c9] at H
        have c9b0 : decide (1 < (l0.length : Int)) = true := decide_eq_true c9
        have c9b1 : decide (1 < l0.length) = true := decide_eq_true (by omega)
        clear c9
        have HC10 := Aside0.mk H
        clear H
        have p324 : 0 ≤ (1 : Int) := (by omega)
        have q324 : 1 < (l0.length : Int) := od
        obtain ⟨ad324, A324_1, c324_1, e324, hx324_0, hx324_1, hl324_1, hi324_1⟩ := at_T76 HR0.out 1 p324 q324
        cases e324
        (try simp only [show (1 : Int).toNat = 1 from rfl, Nat.reduceMul, Nat.reduceEqDiff, Go.Addr.add, ↓reduceIte] at hx324_0)
        (try simp only [show (1 : Int).toNat = 1 from rfl, Nat.reduceMul, Nat.reduceEqDiff, Go.Addr.add, ↓reduceIte] at hx324_1)
        have qi324 : (1 < l0.length) = True := eq_true (by omega)
        (try rw [show ((1 : Int)).toNat = 1 from rfl] at hx324_0)
        (try rw [show 1 * 2 = 2 from rfl] at hx324_0)
        (try rw [show ((1 : Int)).toNat = 1 from rfl] at hx324_1)
        (try rw [show 1 * 2 = 2 from rfl] at hx324_1)
        obtain ⟨hx324_0,hx324_1⟩ := hc2 HB hx324_0 hx324_1
        have HR324_1 := Aside0.mk hi324_1
        have HC324_1 := Aside0.mk hl324_1
        clear hi324_1 hl324_1
        replace p324 := eq_true p324
        replace q324 := eq_true q324
        go_upto_region 6 with (first | ((with_reducible refine gd 3 rfl ?_); (try (refine gate_guard (by rfl) ?_; dsimp only)); refine bx 3 #[.int .i64 0, .slice none 0 0] 76 ?_; intro gb325 hg w11 hbox hb; have BK325 := Aside0.mk hbox; have GW325 := hz HB hg; have GE325 := hz HB hg; replace HB := hs HB hb; clear hb hbox hg; obtain ⟨_,_,_,_⟩ := cf2 BK325))
        (try simp only [Act.put, List.setIfInBounds_toArray, List.set_cons_zero, List.set_cons_succ])
        go_cut [47] (fun v47 wc => ∃ (kq : Nat) (x47_9 : Bool), v47 = .bool x47_9 ∧ Aside0 (impl_ClassesOk.j2 kq l0 x47_9 = some r) ∧ Aside0 (kq ≤ kj4) ∧ Aside0 (wc.heap[gb325]? = some (.cells #[.int .i64 ((rd_T76 l0 1).f0), (.slice A324_1 ((rd_T76 l0 1).f1).length c324_1)] 76 (0, 0))) ∧ Aside0 (Below w.heap.size w wc))
        case first =>
         have H := HC10.out
         clear HC10
         by_cases c13 : ((rd_T76 l0 1).f0) = 0
         ·rw [if_pos c13] at H
          have c13b0 := beq_iff_eq.mpr c13
          have c13b1 := bne_eq_false_iff_eq.mpr c13
          clear c13
          (first | rw [c13b0] | (simp only [i64_w, i32_w]; rw [c13b0]) | skip)
          by_cases c14 : (((rd_T76 l0 1).f1).length : Int) = 1
          ·rw [if_pos c14] at H
           have c14b0 := beq_iff_eq.mpr c14
           have c14b1 := bne_eq_false_iff_eq.mpr c14
           clear c14
           by_cases c15 : 0 < (((rd_T76 l0 1).f1).length : Int)
           ·rw [if_pos c15] at H
            have c15b0 : decide (0 < (((rd_T76 l0 1).f1).length : Int)) = true := decide_eq_true c15
            have c15b1 : decide (0 < ((rd_T76 l0 1).f1).length) = true := decide_eq_true (by omega)
            clear c15
            have H' := Aside0.mk H
            clear H
            obtain ⟨_,_,_,_⟩ := cf2 BK325
            have p326 : 0 ≤ (0 : Int) := (by omega)
            have q326 : 0 < (((rd_T76 l0 1).f1).length : Int) := od
            obtain ⟨ad326, e326, hx326_0⟩ := Kd.at_int HR324_1.out 0 p326 q326
            cases e326
            have qi326 : (0 < ((rd_T76 l0 1).f1).length) = True := eq_true (by omega)
            (try rw [show ((0 : Int)).toNat = 0 from rfl] at hx326_0)
            (try rw [Addr.add_zero'] at hx326_0)
            have hn326_0 : ad326.block ≠ gb325 := Nat.ne_of_lt (Nat.lt_of_lt_of_le (by have := World.block_lt_of_cell? _ _ hx326_0; first | rwa [add_block] at this | exact this) GW325.out)
            have hn326_1 : ad326.block ≠ gb325 := Nat.ne_of_lt (Nat.lt_of_lt_of_le (by have := World.block_lt_of_cell? _ _ hx326_0; first | rwa [add_block] at this | exact this) GW325.out)
            replace hx326_0 := hc HB hx326_0
            replace hx326_0 := (cell_far (p := ⟨gb325, 0, none⟩) (by first | (rw [add_block]; exact hn326_0) | (show (Addr.add _ _).block ≠ _; rw [add_block]; exact hn326_0) | exact hn326_0) (.int .i64 ((rd_T76 l0 1).f0))).trans hx326_0
            replace hx326_0 := (cell_far (p := ⟨gb325, 1, none⟩) (by first | (rw [add_block]; exact hn326_1) | (show (Addr.add _ _).block ≠ _; rw [add_block]; exact hn326_1) | exact hn326_1) (.slice (some ad326) ((rd_T76 l0 1).f1).length c324_1)).trans hx326_0
            clear hn326_0
            clear hn326_1
            replace p326 := eq_true p326
            replace q326 := eq_true q326
            go_wp2
            go_meet
            case rel => exact ⟨_, (((rd ((rd_T76 l0 1).f1) 0) != 1)), (by first | rfl | (simp; done) | (simp [*]; done)), H', ⟨by have := HJ1.out; have := HJ4.out; first | omega | exact Nat.le_refl _⟩, kf, ⟨bl⟩⟩
           ·rw [if_neg c15] at H
            exact absurd H (by simp)
          ·rw [if_neg c14] at H
           have c14b0 := beq_eq_false_iff_ne.mpr c14
           have c14b1 := bne_iff_ne.mpr c14
           have H' := Aside0.mk H
           clear H
           obtain ⟨_,_,_,_⟩ := cf2 BK325
           go_wp2
           go_meet
           case rel => exact ⟨_, (true), (by first | rfl | (simp; done) | (simp [*]; done)), H', ⟨by have := HJ1.out; have := HJ4.out; first | omega | exact Nat.le_refl _⟩, kf, ⟨bl⟩⟩
         ·rw [if_neg c13] at H
          have c13b0 := beq_eq_false_iff_ne.mpr c13
          have c13b1 := bne_iff_ne.mpr c13
          (first | rw [c13b0] | (simp only [i64_w, i32_w]; rw [c13b0]) | skip)
          have H' := Aside0.mk H
          clear H
          obtain ⟨_,_,_,_⟩ := cf2 BK325
          go_wp2
          go_meet
          case rel => exact ⟨_, (true), (by first | rfl | (simp; done) | (simp [*]; done)), H', ⟨by have := HJ1.out; have := HJ4.out; first | omega | exact Nat.le_refl _⟩, kf, ⟨bl⟩⟩
        case rest =>
         clear HC10
         obtain ⟨kq, x47_9, rfl, HA, HJ9, BK325, HB⟩ := hcut
         cases kq with
         | zero => exact absurd HA.out (by simp [impl_ClassesOk.j2])
         | succ kj9 =>
          have H := HA.out
          clear HA
          simp only [impl_ClassesOk.j2] at H
          by_cases c19 : x47_9 = true
          ·subst c19
           replace H := it H
           obtain rfl := Option.some.inj H; clear H
           go_wp2
           go_ret
           exact fin
          ·replace c19 := Bool.eq_false_iff.mpr c19
           subst c19
           replace H := ie H
           have H' := Aside0.mk H
           clear H
           go_wp2
           go_loopg [50] kj9 (fun kq v50 w' => ∃ (x50_4 : Int), v50 = .int .i64 x50_4 ∧ Aside0 (impl_ClassesOk.l0 kq l0 l0 (l0.length : Int) x50_4 = some r) ∧ Aside0 (kq ≤ kj9) ∧ Aside0 (w'.heap[gb325]? = some (.cells #[.int .i64 ((rd_T76 l0 1).f0), (.slice A324_1 ((rd_T76 l0 1).f1).length c324_1)] 76 (0, 0))) ∧ Aside0 (Below w.heap.size w w'))
           case atStart => exact ⟨(0), (by first | rfl | (simp; done) | (simp [*]; done)), H', ⟨Nat.le_refl _⟩, kk BK325, ⟨bl⟩⟩
           case round =>
            clear H'
            obtain ⟨x50_4, rfl, HA, HK4, BK325, HB⟩ := hrel
            cases gk with
            | zero => exact absurd HA.out (by simp [impl_ClassesOk.l0])
            | succ k4 =>
             have H := HA.out
             clear HA
             simp only [impl_ClassesOk.l0] at H
             by_cases c20 : x50_4 < (l0.length : Int)
             ·rw [if_pos c20] at H
              have c20b0 : decide (x50_4 < (l0.length : Int)) = true := decide_eq_true c20
              clear c20
              by_cases c21 : 0 ≤ x50_4
              ·rw [if_pos c21] at H
               have c21b0 : decide (0 ≤ x50_4) = true := decide_eq_true c21
               clear c21
               by_cases c22 : x50_4 < (l0.length : Int)
               ·rw [if_pos c22] at H
                have c22b0 : decide (x50_4 < (l0.length : Int)) = true := decide_eq_true c22
                clear c22
                have HC23 := Aside0.mk H
                clear H
                have p327 : 0 ≤ (x50_4 : Int) := od
                have q327 : x50_4 < (l0.length : Int) := od
                obtain ⟨ad327, A327_1, c327_1, e327, hx327_0, hx327_1, hl327_1, hi327_1⟩ := at_T76 HR0.out x50_4 p327 q327
                obtain rfl : ad324 = ad327 := (by injection e327)
                obtain ⟨hx327_0,hx327_1⟩ := hc2 HB hx327_0 hx327_1
                have HR327_1 := Aside0.mk hi327_1
                have HC327_1 := Aside0.mk hl327_1
                clear hi327_1 hl327_1
                replace p327 := eq_true p327
                replace q327 := eq_true q327
                go_upto_region 11 with (first | ((with_reducible refine gd 5 rfl ?_); (try (refine gate_guard (by rfl) ?_; dsimp only)); refine bx 5 #[.int .i64 0, .slice none 0 0] 76 ?_; intro gb328 hg w24 hbox hb; have BK328 := Aside0.mk hbox; have GW328 := hz HB hg; have GE328 := hz HB hg; have NB325_328 := nl BK325 hg; have NB328_325 := ng BK325 hg; replace BK325 := kb BK325 hb; replace HB := hs HB hb; clear hb hbox hg; have hnb25 := NB328_325.out; have hnc25 := NB325_328.out; obtain ⟨_,_,_,_⟩ := cf2 BK328))
                (try simp only [Act.put, List.setIfInBounds_toArray, List.set_cons_zero, List.set_cons_succ])
                go_cut [67] (fun v67 wc => ∃ (kq : Nat) (x67_22 : Bool), v67 = .bool x67_22 ∧ Aside0 (impl_ClassesOk.j4 kq l0 l0 (l0.length : Int) x50_4 x67_22 ((rd_T76 l0 x50_4).f0) ((rd_T76 l0 x50_4).f1) = some r) ∧ Aside0 (kq ≤ k4) ∧ Aside0 (wc.heap[gb325]? = some (.cells #[.int .i64 ((rd_T76 l0 1).f0), (.slice A324_1 ((rd_T76 l0 1).f1).length c324_1)] 76 (0, 0))) ∧ Aside0 (wc.heap[gb328]? = some (.cells #[.int .i64 ((rd_T76 l0 x50_4).f0), (.slice A327_1 ((rd_T76 l0 x50_4).f1).length c327_1)] 76 (0, 0))) ∧ Aside0 (Below w.heap.size w wc))
                case first =>
                 have H := HC23.out
                 clear HC23
                 by_cases c27 : x50_4 > 1
                 ·rw [if_pos c27] at H
                  have c27b0 : decide (1 < x50_4) = true := decide_eq_true c27
                  clear c27
                  (first | rw [c27b0] | (simp only [i64_w, i32_w]; rw [c27b0]) | skip)
                  by_cases c28 : ((rd_T76 l0 x50_4).f0) < 0
                  ·rw [if_pos c28] at H
                   have c28b0 : decide (((rd_T76 l0 x50_4).f0) < 0) = true := decide_eq_true c28
                   clear c28
                   have H' := Aside0.mk H
                   clear H
                   have hnb29 := NB328_325.out
                   have hnc29 := NB325_328.out
                   obtain ⟨_,_,_,_⟩ := cf2 BK328
                   go_wp2
                   go_meet
                   case rel => exact ⟨_, (true), (by first | rfl | (simp; done) | (simp [*]; done)), H', ⟨by have := HJ1.out; have := HJ4.out; have := HJ9.out; have := HK4.out; first | omega | exact Nat.le_refl _⟩, kf, kf, ⟨bl⟩⟩
                  ·rw [if_neg c28] at H
                   have c28b0 : decide (((rd_T76 l0 x50_4).f0) < 0) = false := decide_eq_false c28
                   clear c28
                   have H' := Aside0.mk H
                   clear H
                   have hnb31 := NB328_325.out
                   have hnc31 := NB325_328.out
                   obtain ⟨_,_,_,_⟩ := cf2 BK328
                   go_wp2
                   go_meet
                   case rel => exact ⟨_, (decide (((rd_T76 l0 x50_4).f0) ≥ x50_4)), (by first | rfl | (simp; done) | (simp [*]; done)), H', ⟨by have := HJ1.out; have := HJ4.out; have := HJ9.out; have := HK4.out; first | omega | exact Nat.le_refl _⟩, kf, kf, ⟨bl⟩⟩
                 ·rw [if_neg c27] at H
                  have c27b0 : decide (1 < x50_4) = false := decide_eq_false c27
                  clear c27
                  (first | rw [c27b0] | (simp only [i64_w, i32_w]; rw [c27b0]) | skip)
                  have H' := Aside0.mk H
                  clear H
                  go_wp2
                  go_meet
                  case rel => exact ⟨_, (false), (by first | rfl | (simp; done) | (simp [*]; done)), H', ⟨by have := HJ1.out; have := HJ4.out; have := HJ9.out; have := HK4.out; first | omega | exact Nat.le_refl _⟩, kf, kf, ⟨bl⟩⟩
                case rest =>
                 clear HC23
                 obtain ⟨kq, x67_22, rfl, HA, HJ22, BK325, BK328, HB⟩ := hcut
                 cases kq with
                 | zero => exact absurd HA.out (by simp [impl_ClassesOk.j4])
                 | succ kj22 =>
                  have H := HA.out
                  clear HA
                  simp only [impl_ClassesOk.j4] at H
                  by_cases c33 : x67_22 = true
                  ·subst c33
                   replace H := it H
                   obtain rfl := Option.some.inj H; clear H
                   go_wp2
                   go_ret
                   exact fin
                  ·replace c33 := Bool.eq_false_iff.mpr c33
                   subst c33
                   replace H := ie H
                   by_cases c34 : (((rd_T76 l0 x50_4).f1).length : Int) > 2
                   ·rw [if_pos c34] at H
                    have c34b0 : decide (2 < (((rd_T76 l0 x50_4).f1).length : Int)) = true := decide_eq_true c34
                    have c34b1 : decide (2 < ((rd_T76 l0 x50_4).f1).length) = true := decide_eq_true (by omega)
                    clear c34
                    obtain rfl := Option.some.inj H; clear H
                    have hnb35 := NB328_325.out
                    have hnc35 := NB325_328.out
                    obtain ⟨_,_,_,_⟩ := cf2 BK328
                    go_wp2
                    go_ret
                    exact fin
                   ·rw [if_neg c34] at H
                    have c34b0 : decide (2 < (((rd_T76 l0 x50_4).f1).length : Int)) = false := decide_eq_false c34
                    have c34b1 : decide (2 < ((rd_T76 l0 x50_4).f1).length) = false := decide_eq_false (by omega)
                    clear c34
                    have H' := Aside0.mk H
                    clear H
                    have hnb37 := NB328_325.out
                    have hnc37 := NB325_328.out
                    obtain ⟨_,_,_,_⟩ := cf2 BK328
                    go_wp2
                    go_loopg [75] kj22 (fun kq v75 w' => ∃ (x75_6 : Int), v75 = .int .i64 x75_6 ∧ Aside0 (impl_ClassesOk.l1 kq l0 l0 (l0.length : Int) x50_4 ((rd_T76 l0 x50_4).f1) (((rd_T76 l0 x50_4).f1).length : Int) x75_6 = some r) ∧ Aside0 (kq ≤ kj22) ∧ Aside0 (w'.heap[gb325]? = some (.cells #[.int .i64 ((rd_T76 l0 1).f0), (.slice A324_1 ((rd_T76 l0 1).f1).length c324_1)] 76 (0, 0))) ∧ Aside0 (w'.heap[gb328]? = some (.cells #[.int .i64 ((rd_T76 l0 x50_4).f0), (.slice A327_1 ((rd_T76 l0 x50_4).f1).length c327_1)] 76 (0, 0))) ∧ Aside0 (Below w.heap.size w w'))
                    case atStart => exact ⟨(0), (by first | rfl | (simp; done) | (simp [*]; done)), H', ⟨Nat.le_refl _⟩, kk BK325, kk BK328, ⟨bl⟩⟩
                    case round =>
                     clear H'
                     obtain ⟨x75_6, rfl, HA, HK6, BK325, BK328, HB⟩ := hrel
                     cases gk with
                     | zero => exact absurd HA.out (by simp [impl_ClassesOk.l1])
                     | succ k6 =>
                      have H := HA.out
                      clear HA
                      simp only [impl_ClassesOk.l1] at H
                      by_cases c39 : x75_6 < (((rd_T76 l0 x50_4).f1).length : Int)
                      ·rw [if_pos c39] at H
                       have c39b0 : decide (x75_6 < (((rd_T76 l0 x50_4).f1).length : Int)) = true := decide_eq_true c39
                       clear c39
                       by_cases c40 : 0 ≤ x75_6
                       ·rw [if_pos c40] at H
                        have c40b0 : decide (0 ≤ x75_6) = true := decide_eq_true c40
                        clear c40
                        by_cases c41 : x75_6 < (((rd_T76 l0 x50_4).f1).length : Int)
                        ·rw [if_pos c41] at H
                         have c41b0 : decide (x75_6 < (((rd_T76 l0 x50_4).f1).length : Int)) = true := decide_eq_true c41
                         clear c41
                         obtain ⟨t330, A42, H⟩ := ob H
                         by_cases c43 : t330 = true
                         ·subst c43
                          replace H := it H
                          have H' := Aside0.mk H
                          clear H
                          have p329 : 0 ≤ (x75_6 : Int) := od
                          have q329 : x75_6 < (((rd_T76 l0 x50_4).f1).length : Int) := od
                          obtain ⟨ad329, e329, hx329_0⟩ := Kd.at_int HR327_1.out x75_6 p329 q329
                          cases e329
                          replace hx329_0 := hc HB hx329_0
                          replace p329 := eq_true p329
                          replace q329 := eq_true q329
                          go_wp2_with (first | ((with_reducible refine gc 42 rfl ?_); refine gl (some 82) Try.func42 #[.int .i64 (l0.length : Int), .int .i64 (rd ((rd_T76 l0 x50_4).f1) x75_6)] rfl ?_; (with_reducible refine (impl_fieldType.calls (l0.length : Int) (rd ((rd_T76 l0 x50_4).f1) x75_6) true _ A42.out).mono ?_); rintro e w' ⟨rfl, ⟨nd, rfl⟩⟩; refine ⟨_, rfl, ?_⟩))
                          go_roundg k6
                          case measure => have := HJ1.out; have := HJ4.out; have := HJ9.out; have := HK4.out; have := HJ22.out; have := HK6.out; omega
                          case rel => exact ⟨(wrap64 (x75_6 + 1)), (by first | rfl | (simp; done) | (simp [*]; done)), H', ⟨by have := HJ1.out; have := HJ4.out; have := HJ9.out; have := HK4.out; have := HJ22.out; have := HK6.out; omega⟩, kk BK325, kk BK328, ⟨bl⟩⟩
                         ·replace c43 := Bool.eq_false_iff.mpr c43
                          subst c43
                          replace H := ie H
                          obtain rfl := Option.some.inj H; clear H
                          have p329 : 0 ≤ (x75_6 : Int) := od
                          have q329 : x75_6 < (((rd_T76 l0 x50_4).f1).length : Int) := od
                          obtain ⟨ad329, e329, hx329_0⟩ := Kd.at_int HR327_1.out x75_6 p329 q329
                          cases e329
                          replace hx329_0 := hc HB hx329_0
                          replace p329 := eq_true p329
                          replace q329 := eq_true q329
                          go_wp2_with (first | ((with_reducible refine gc 42 rfl ?_); refine gl (some 82) Try.func42 #[.int .i64 (l0.length : Int), .int .i64 (rd ((rd_T76 l0 x50_4).f1) x75_6)] rfl ?_; (with_reducible refine (impl_fieldType.calls (l0.length : Int) (rd ((rd_T76 l0 x50_4).f1) x75_6) false _ A42.out).mono ?_); rintro e w' ⟨rfl, ⟨nd, rfl⟩⟩; refine ⟨_, rfl, ?_⟩))
                          go_ret
                          exact fin
                        ·rw [if_neg c41] at H
                         exact absurd H (by simp)
                       ·rw [if_neg c40] at H
                        exact absurd H (by simp)
                      ·rw [if_neg c39] at H
                       have c39b0 : decide (x75_6 < (((rd_T76 l0 x50_4).f1).length : Int)) = false := decide_eq_false c39
                       clear c39
                       have H' := Aside0.mk H
                       clear H
                       go_wp2
                       go_roundg k6
                       case measure => have := HJ1.out; have := HJ4.out; have := HJ9.out; have := HK4.out; have := HJ22.out; have := HK6.out; omega
                       case rel => exact ⟨(wrap64 (x50_4 + 1)), (by first | rfl | (simp; done) | (simp [*]; done)), H', ⟨by have := HJ1.out; have := HJ4.out; have := HJ9.out; have := HK4.out; have := HJ22.out; have := HK6.out; omega⟩, kk BK325, ⟨bl⟩⟩
               ·rw [if_neg c22] at H
                exact absurd H (by simp)
              ·rw [if_neg c21] at H
               exact absurd H (by simp)
             ·rw [if_neg c20] at H
              have c20b0 : decide (x50_4 < (l0.length : Int)) = false := decide_eq_false c20
              clear c20
              obtain rfl := Option.some.inj H; clear H
              go_wp2
              go_ret
              exact fin
       ·rw [if_neg c9] at H
        exact absurd H (by simp)
end Go.Proofs.Ytedodaifpekahaa.P

end
