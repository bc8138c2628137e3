/- A part of the claim FnShapeOrder: texts of this session and texts that its program printed out of the translation, joined. -/
import Derived.Test.YtchegijjjakmpaaCFnShapeOrder22
import Derived.Test.YtchegijjjakmpaaCFnShapeOrder23
import Derived.Test.YtchegijjjakmpaaCFnShapeOrder0
import Derived.Test.YtchegijjjakmpaaCFnShapeOrder1
import Derived.Test.YtchegijjjakmpaaCFnShapeOrder2
import Derived.Test.YtchegijjjakmpaaCFnShapeOrder3
import Derived.Test.YtchegijjjakmpaaCFnShapeOrder4
import Derived.Test.YtchegijjjakmpaaCFnShapeOrder5
import Derived.Test.YtchegijjjakmpaaCFnShapeOrder6
import Derived.Test.YtchegijjjakmpaaCFnShapeOrder7
import Derived.Test.YtchegijjjakmpaaCFnShapeOrder8
import Derived.Test.YtchegijjjakmpaaCFnShapeOrder9
import Derived.Test.YtchegijjjakmpaaCFnShapeOrder10
import Derived.Test.YtchegijjjakmpaaCFnShapeOrder11
import Derived.Test.YtchegijjjakmpaaCFnShapeOrder12
import Derived.Test.YtchegijjjakmpaaCFnShapeOrder13
import Derived.Test.YtchegijjjakmpaaCFnShapeOrder14
import Derived.Test.YtchegijjjakmpaaCFnShapeOrder15
import Derived.Test.YtchegijjjakmpaaCFnShapeOrder16
import Derived.Test.YtchegijjjakmpaaCFnShapeOrder17
import Derived.Test.YtchegijjjakmpaaCFnShapeOrder18
import Derived.Test.YtchegijjjakmpaaCFnShapeOrder19
import Derived.Test.YtchegijjjakmpaaCFnShapeOrder20
import Derived.Test.YtchegijjjakmpaaCFnShapeOrder21
section

namespace Go.Proofs.Ytchegijjjakmpaa.P
open Go.RowKit Go.Proofs.YtchegijjjakmpaaW.PrintWords Go.Proofs.YtchegijjjakmpaaW.PrintLast Go.Proofs.YtchegijjjakmpaaW.PrintMore
attribute [local go_sem] max2_int min2_int max_two min_two max_three min_three max_four min_four
set_option linter.unusedVariables false
set_option linter.unusedSimpArgs false
set_option maxHeartbeats 8000000 in
set_option maxRecDepth 100000 in
theorem spec_l2In.calls (k : Nat) (A0 : Option Addr) (c0 : Nat) (l0 : List (S48)) (a1 : Int) (a2 : Int) (r : Bool) (w : World) (hr0 : Kd.C k48 w A0 l0.length l0) (hc0 : l0.length ≤ c0) (h : spec_l2In.f k l0 a1 a2 = some r) :
  Calls Try.prog 26 #[.slice A0 l0.length c0, .int .i64 a1, .int .i64 a2] w fun e w' => e = .returned (.bool r) ∧ Drawn0 w w' := by
 have HR0 := Aside0.mk hr0
 have HC0 := Aside0.mk hc0
 clear hr0 hc0
 have H : (if a1 = a2 then (spec_l2In.j0 k l0 a1 a2 true) else (spec_l2In.j0 k l0 a1 a2 (a2 == 0))) = some r := h
 clear h
 have HC4 := Aside0.mk H
 clear H
 go_enter Try.func26, Try.ntmps26
 go_upto_region 1 with (fail)
 go_cut [13] (fun v13 wc => ∃ (kq : Nat) (x13_3 : Bool), v13 = .bool x13_3 ∧ Aside0 (spec_l2In.j0 kq l0 a1 a2 x13_3 = some r) ∧ Aside0 (kq ≤ k) ∧ Drawn0 w wc)
 case first =>
  have H := HC4.out
  clear HC4
  by_cases c5 : a1 = a2
  ·rw [if_pos c5] at H
   have c5b0 := beq_iff_eq.mpr c5
   have c5b1 := bne_eq_false_iff_eq.mpr c5
   clear c5
   (first | rw [c5b0] | (simp only [i64_w, i32_w]; rw [c5b0]) | skip)
   have H' := Aside0.mk H
   clear H
   go_wp2
   go_meet
   case rel => exact ⟨_, (true), (by first | rfl | (simp; done) | (simp [*]; done)), H', ⟨by first | omega | exact Nat.le_refl _⟩, by repeat (first | exact Drawn0.refl _ | apply Drawn0.step)⟩
  ·rw [if_neg c5] at H
   have c5b0 := beq_eq_false_iff_ne.mpr c5
   have c5b1 := bne_iff_ne.mpr c5
   (first | rw [c5b0] | (simp only [i64_w, i32_w]; rw [c5b0]) | skip)
   have H' := Aside0.mk H
   clear H
   go_wp2
   go_meet
   case rel => exact ⟨_, ((a2 == 0)), (by first | rfl | (simp; done) | (simp [*]; done)), H', ⟨by first | omega | exact Nat.le_refl _⟩, by repeat (first | exact Drawn0.refl _ | apply Drawn0.step)⟩
 case rest =>
  clear HC4
  obtain ⟨kq, x13_3, rfl, HA, HJ3, ⟨mc3, rfl⟩⟩ := hcut
  cases kq with
  | zero => exact absurd HA.out (by simp [spec_l2In.j0])
  | succ kj3 =>
   have H := HA.out
   clear HA
   simp only [spec_l2In.j0] at H
   by_cases c6 : x13_3 = true
   ·subst c6
    replace H := it H
    obtain rfl := Option.some.inj H; clear H
    go_wp2
    go_ret
    exact ⟨by first | rfl | (simp; done) | (simp [*]; done), by repeat (first | exact Drawn0.refl _ | apply Drawn0.step)⟩
   ·replace c6 := Bool.eq_false_iff.mpr c6
    subst c6
    replace H := ie H
    by_cases c7 : a1 = 2
    ·rw [if_pos c7] at H
     have c7b0 := beq_iff_eq.mpr c7
     have c7b1 := bne_eq_false_iff_eq.mpr c7
     clear c7
     obtain ⟨t263, A8, H⟩ := ob H
     obtain rfl := Option.some.inj H; clear H
     go_wp2_with (first | ((with_reducible refine gc 31 rfl ?_); refine gl (some 17) Try.func31 #[.int .i64 a2] rfl ?_; (with_reducible refine (spec_l2Ref.calls a2 t263 _ A8.out).mono ?_); rintro e w' ⟨rfl, ⟨nd, rfl⟩⟩; refine ⟨_, rfl, ?_⟩))
     go_ret
     exact ⟨by first | rfl | (simp; done) | (simp [*]; done), by repeat (first | exact Drawn0.refl _ | apply Drawn0.step)⟩
    ·rw [if_neg c7] at H
     have c7b0 := beq_eq_false_iff_ne.mpr c7
     have c7b1 := bne_iff_ne.mpr c7
     have HC9 := Aside0.mk H
     clear H
     go_upto_region 5 with (fail)
     go_cut [24] (fun v24 wc => ∃ (kq : Nat) (x24_8 : Bool), v24 = .bool x24_8 ∧ Aside0 (spec_l2In.j1 kq l0 a1 a2 x24_8 = some r) ∧ Aside0 (kq ≤ kj3) ∧ Drawn0 w wc)
     case first =>
      have H := HC9.out
      clear HC9
      obtain ⟨t264, A10, H⟩ := ob H
      by_cases c11 : t264 = true
      ·subst c11
       replace H := it H
       have H' := Aside0.mk H
       clear H
       go_wp2_with (first | ((with_reducible refine gc 31 rfl ?_); refine gl (some 19) Try.func31 #[.int .i64 a1] rfl ?_; (with_reducible refine (spec_l2Ref.calls a1 true _ A10.out).mono ?_); rintro e w' ⟨rfl, ⟨nd, rfl⟩⟩; refine ⟨_, rfl, ?_⟩))
       go_meet
       case rel => exact ⟨_, (decide (a2 < 8)), (by first | rfl | (simp; done) | (simp [*]; done)), H', ⟨by have := HJ3.out; first | omega | exact Nat.le_refl _⟩, by repeat (first | exact Drawn0.refl _ | apply Drawn0.step)⟩
      ·replace c11 := Bool.eq_false_iff.mpr c11
       subst c11
       replace H := ie H
       have H' := Aside0.mk H
       clear H
       go_wp2_with (first | ((with_reducible refine gc 31 rfl ?_); refine gl (some 19) Try.func31 #[.int .i64 a1] rfl ?_; (with_reducible refine (spec_l2Ref.calls a1 false _ A10.out).mono ?_); rintro e w' ⟨rfl, ⟨nd, rfl⟩⟩; refine ⟨_, rfl, ?_⟩))
       go_meet
       case rel => exact ⟨_, (true), (by first | rfl | (simp; done) | (simp [*]; done)), H', ⟨by have := HJ3.out; first | omega | exact Nat.le_refl _⟩, by repeat (first | exact Drawn0.refl _ | apply Drawn0.step)⟩
     case rest =>
      clear HC9
      obtain ⟨kq, x24_8, rfl, HA, HJ8, ⟨mc8, rfl⟩⟩ := hcut
      cases kq with
      | zero => exact absurd HA.out (by simp [spec_l2In.j1])
      | succ kj8 =>
       have H := HA.out
       clear HA
       simp only [spec_l2In.j1] at H
       by_cases c12 : x24_8 = true
       ·subst c12
        replace H := it H
        obtain rfl := Option.some.inj H; clear H
        go_wp2
        go_ret
        exact ⟨by first | rfl | (simp; done) | (simp [*]; done), by repeat (first | exact Drawn0.refl _ | apply Drawn0.step)⟩
       ·replace c12 := Bool.eq_false_iff.mpr c12
        subst c12
        replace H := ie H
        by_cases c13 : a1 < 8
        ·rw [if_pos c13] at H
         have c13b0 : decide (a1 < 8) = true := decide_eq_true c13
         clear c13
         obtain rfl := Option.some.inj H; clear H
         go_wp2
         go_ret
         exact ⟨by first | rfl | (simp; done) | (simp [*]; done), by repeat (first | exact Drawn0.refl _ | apply Drawn0.step)⟩
        ·rw [if_neg c13] at H
         have c13b0 : decide (a1 < 8) = false := decide_eq_false c13
         clear c13
         obtain ⟨t265, A14, H⟩ := ob H
         obtain rfl := Option.some.inj H; clear H
         go_wp2_with (first | ((with_reducible refine gc 36 rfl ?_); refine gl (some 34) Try.func36 #[.slice A0 l0.length c0, .int .i64 (wrap64 (a1 - 8)), .int .i64 (wrap64 (a2 - 8))] rfl ?_; (with_reducible refine (spec_l2Up.calls kj8 _ _ l0 (wrap64 (a1 - 8)) (wrap64 (a2 - 8)) t265 _ ?side1 ?side2 A14.out).mono ?_); (case side1 => repeat (first | exact HR0.out | (with_reducible refine Kd.C_alloc ?_ _) | (with_reducible refine Kd.C_drewN ?_ _) | (with_reducible refine Kd.C_drew ?_))); (case side2 => exact HC0.out); rintro e w' ⟨rfl, ⟨nd, rfl⟩⟩; refine ⟨_, rfl, ?_⟩))
         go_ret
         exact ⟨by first | rfl | (simp; done) | (simp [*]; done), by repeat (first | exact Drawn0.refl _ | apply Drawn0.step)⟩
end Go.Proofs.Ytchegijjjakmpaa.P

end
section

namespace Go.Proofs.Ytchegijjjakmpaa.P
open Go.RowKit Go.Proofs.YtchegijjjakmpaaW.PrintWords Go.Proofs.YtchegijjjakmpaaW.PrintLast Go.Proofs.YtchegijjjakmpaaW.PrintMore
attribute [local go_sem] max2_int min2_int max_two min_two max_three min_three max_four min_four
set_option linter.unusedVariables false
set_option linter.unusedSimpArgs false
set_option maxHeartbeats 8000000 in
set_option maxRecDepth 100000 in
theorem spec_l2Join.calls (k : Nat) (A0 : Option Addr) (c0 : Nat) (l0 : List (S48)) (a1 : Int) (a2 : Int) (r : Int) (w : World) (hr0 : Kd.C k48 w A0 l0.length l0) (hc0 : l0.length ≤ c0) (h : spec_l2Join.f k l0 a1 a2 = some r) :
  Calls Try.prog 32 #[.slice A0 l0.length c0, .int .i64 a1, .int .i64 a2] w fun e w' => e = .returned (.int .i64 r) ∧ Drawn0 w w' := by
 have HR0 := Aside0.mk hr0
 have HC0 := Aside0.mk hc0
 clear hr0 hc0
 have H : (spec_l2Join.l0 k l0 a1 a2) = some r := h
 clear h
 have H' := Aside0.mk H
 clear H
 go_enter Try.func32, Try.ntmps32
 go_wp2
 go_loopg [1] k (fun kq v1 w' => ∃ (x1_1 : Int), v1 = .int .i64 x1_1 ∧ Aside0 (spec_l2Join.l0 kq l0 x1_1 a2 = some r) ∧ Aside0 (kq ≤ k) ∧ Drawn0 w w')
 case atStart => exact ⟨(a1), (by first | rfl | (simp; done) | (simp [*]; done)), H', ⟨Nat.le_refl _⟩, by repeat (first | exact Drawn0.refl _ | apply Drawn0.step)⟩
 case round =>
  clear H'
  obtain ⟨x1_1, rfl, HA, HK1, ⟨m1, rfl⟩⟩ := hrel
  cases gk with
  | zero => exact absurd HA.out (by simp [spec_l2Join.l0])
  | succ k1 =>
   have H := HA.out
   clear HA
   simp only [spec_l2Join.l0] at H
   obtain ⟨t266, A4, H⟩ := ob H
   by_cases c5 : t266 = true
   ·subst c5
    replace H := it H
    obtain rfl := Option.some.inj H; clear H
    go_wp2_with (first | ((with_reducible refine gc 36 rfl ?_); refine gl (some 10) Try.func36 #[.slice A0 l0.length c0, .int .i64 a2, .int .i64 x1_1] rfl ?_; (with_reducible refine (spec_l2Up.calls k1 _ _ l0 a2 x1_1 true _ ?side1 ?side2 A4.out).mono ?_); (case side1 => repeat (first | exact HR0.out | (with_reducible refine Kd.C_alloc ?_ _) | (with_reducible refine Kd.C_drewN ?_ _) | (with_reducible refine Kd.C_drew ?_))); (case side2 => exact HC0.out); rintro e w' ⟨rfl, ⟨nd, rfl⟩⟩; refine ⟨_, rfl, ?_⟩))
    go_ret
    exact ⟨by first | rfl | (simp; done) | (simp [*]; done), by repeat (first | exact Drawn0.refl _ | apply Drawn0.step)⟩
   ·replace c5 := Bool.eq_false_iff.mpr c5
    subst c5
    replace H := ie H
    by_cases c6 : 0 ≤ x1_1
    ·rw [if_pos c6] at H
     have c6b0 : decide (0 ≤ x1_1) = true := decide_eq_true c6
     clear c6
     by_cases c7 : x1_1 < (l0.length : Int)
     ·rw [if_pos c7] at H
      have c7b0 : decide (x1_1 < (l0.length : Int)) = true := decide_eq_true c7
      clear c7
      have H' := Aside0.mk H
      clear H
      go_wp2_with (first | ((with_reducible refine gc 36 rfl ?_); refine gl (some 10) Try.func36 #[.slice A0 l0.length c0, .int .i64 a2, .int .i64 x1_1] rfl ?_; (with_reducible refine (spec_l2Up.calls k1 _ _ l0 a2 x1_1 false _ ?side1 ?side2 A4.out).mono ?_); (case side1 => repeat (first | exact HR0.out | (with_reducible refine Kd.C_alloc ?_ _) | (with_reducible refine Kd.C_drewN ?_ _) | (with_reducible refine Kd.C_drew ?_))); (case side2 => exact HC0.out); rintro e w' ⟨rfl, ⟨nd, rfl⟩⟩; refine ⟨_, rfl, ?_⟩; have p267 : 0 ≤ (x1_1 : Int) := od; have q267 : x1_1 < (l0.length : Int) := od; obtain ⟨ad267, A267_1, c267_1, e267, hx267_0, hx267_1, hl267_1, hi267_1⟩ := at_T48 HR0.out x1_1 p267 q267; cases e267; have HR267_1 := Aside0.mk hi267_1; have HC267_1 := Aside0.mk hl267_1; clear hi267_1 hl267_1; replace p267 := eq_true p267; replace q267 := eq_true q267))
      go_roundg k1
      case measure => have := HK1.out; omega
      case rel => exact ⟨((rd_T48 l0 x1_1).f0), (by first | rfl | (simp; done) | (simp [*]; done)), H', ⟨by have := HK1.out; omega⟩, by repeat (first | exact Drawn0.refl _ | apply Drawn0.step)⟩
     ·rw [if_neg c7] at H
      exact absurd H (by simp)
    ·rw [if_neg c6] at H
     exact absurd H (by simp)
end Go.Proofs.Ytchegijjjakmpaa.P

end
section

namespace Go.Proofs.Ytchegijjjakmpaa.P
open Go.RowKit Go.Proofs.YtchegijjjakmpaaW.PrintWords Go.Proofs.YtchegijjjakmpaaW.PrintLast Go.Proofs.YtchegijjjakmpaaW.PrintMore
attribute [local go_sem] max2_int min2_int max_two min_two max_three min_three max_four min_four
set_option linter.unusedVariables false
set_option linter.unusedSimpArgs false
set_option maxHeartbeats 8000000 in
set_option maxRecDepth 100000 in
theorem spec_l2Meets.calls (k : Nat) (A0 : Option Addr) (c0 : Nat) (l0 : List (S48)) (a1 : Int) (a2 : Int) (r : Int) (w : World) (hr0 : Kd.C k48 w A0 l0.length l0) (hc0 : l0.length ≤ c0) (h : spec_l2Meets.f k l0 a1 a2 = some r) :
  Calls Try.prog 22 #[.slice A0 l0.length c0, .int .i64 a1, .int .i64 a2] w fun e w' => e = .returned (.int .i64 r) ∧ Drawn0 w w' := by
 have HR0 := Aside0.mk hr0
 have HC0 := Aside0.mk hc0
 clear hr0 hc0
 have H : ((spec_l2In.f k l0 a1 a2).bind fun t268 => (if t268 = true then (some a2) else ((spec_l2In.f k l0 a2 a1).bind fun t269 => (if t269 = true then (some a1) else ((spec_l2Ref.f a1).bind fun t270 => (if t270 = true then ((spec_l2Ref.f a2).bind fun t271 => (spec_l2Meets.j0 k l0 a1 a2 (!t271))) else (spec_l2Meets.j0 k l0 a1 a2 true))))))) = some r := h
 clear h
 obtain ⟨t268, A4, H⟩ := ob H
 by_cases c5 : t268 = true
 ·subst c5
  replace H := it H
  obtain rfl := Option.some.inj H; clear H
  go_enter Try.func22, Try.ntmps22
  go_wp2_with (first | ((with_reducible refine gc 26 rfl ?_); refine gl (some 10) Try.func26 #[.slice A0 l0.length c0, .int .i64 a1, .int .i64 a2] rfl ?_; (with_reducible refine (spec_l2In.calls k _ _ l0 a1 a2 true _ ?side1 ?side2 A4.out).mono ?_); (case side1 => repeat (first | exact HR0.out | (with_reducible refine Kd.C_alloc ?_ _) | (with_reducible refine Kd.C_drewN ?_ _) | (with_reducible refine Kd.C_drew ?_))); (case side2 => exact HC0.out); rintro e w' ⟨rfl, ⟨nd, rfl⟩⟩; refine ⟨_, rfl, ?_⟩))
  go_ret
  exact ⟨by first | rfl | (simp; done) | (simp [*]; done), by repeat (first | exact Drawn0.refl _ | apply Drawn0.step)⟩
 ·replace c5 := Bool.eq_false_iff.mpr c5
  subst c5
  replace H := ie H
  obtain ⟨t269, A6, H⟩ := ob H
  by_cases c7 : t269 = true
  ·subst c7
   replace H := it H
   obtain rfl := Option.some.inj H; clear H
   go_enter Try.func22, Try.ntmps22
   go_wp2_with (first | ((with_reducible refine gc 26 rfl ?_); refine gl (some 10) Try.func26 #[.slice A0 l0.length c0, .int .i64 a1, .int .i64 a2] rfl ?_; (with_reducible refine (spec_l2In.calls k _ _ l0 a1 a2 false _ ?side1 ?side2 A4.out).mono ?_); (case side1 => repeat (first | exact HR0.out | (with_reducible refine Kd.C_alloc ?_ _) | (with_reducible refine Kd.C_drewN ?_ _) | (with_reducible refine Kd.C_drew ?_))); (case side2 => exact HC0.out); rintro e w' ⟨rfl, ⟨nd, rfl⟩⟩; refine ⟨_, rfl, ?_⟩) | ((with_reducible refine gc 26 rfl ?_); refine gl (some 15) Try.func26 #[.slice A0 l0.length c0, .int .i64 a2, .int .i64 a1] rfl ?_; (with_reducible refine (spec_l2In.calls k _ _ l0 a2 a1 true _ ?side1 ?side2 A6.out).mono ?_); (case side1 => repeat (first | exact HR0.out | (with_reducible refine Kd.C_alloc ?_ _) | (with_reducible refine Kd.C_drewN ?_ _) | (with_reducible refine Kd.C_drew ?_))); (case side2 => exact HC0.out); rintro e w' ⟨rfl, ⟨nd, rfl⟩⟩; refine ⟨_, rfl, ?_⟩))
   go_ret
   exact ⟨by first | rfl | (simp; done) | (simp [*]; done), by repeat (first | exact Drawn0.refl _ | apply Drawn0.step)⟩
  ·replace c7 := Bool.eq_false_iff.mpr c7
   subst c7
   replace H := ie H
   have HC8 := Aside0.mk H
   clear H
   go_enter Try.func22, Try.ntmps22
   go_upto_region 5 with (first | ((with_reducible refine gc 26 rfl ?_); refine gl (some 10) Try.func26 #[.slice A0 l0.length c0, .int .i64 a1, .int .i64 a2] rfl ?_; (with_reducible refine (spec_l2In.calls k _ _ l0 a1 a2 false _ ?side1 ?side2 A4.out).mono ?_); (case side1 => repeat (first | exact HR0.out | (with_reducible refine Kd.C_alloc ?_ _) | (with_reducible refine Kd.C_drewN ?_ _) | (with_reducible refine Kd.C_drew ?_))); (case side2 => exact HC0.out); rintro e w' ⟨rfl, ⟨nd, rfl⟩⟩; refine ⟨_, rfl, ?_⟩) | ((with_reducible refine gc 26 rfl ?_); refine gl (some 15) Try.func26 #[.slice A0 l0.length c0, .int .i64 a2, .int .i64 a1] rfl ?_; (with_reducible refine (spec_l2In.calls k _ _ l0 a2 a1 false _ ?side1 ?side2 A6.out).mono ?_); (case side1 => repeat (first | exact HR0.out | (with_reducible refine Kd.C_alloc ?_ _) | (with_reducible refine Kd.C_drewN ?_ _) | (with_reducible refine Kd.C_drew ?_))); (case side2 => exact HC0.out); rintro e w' ⟨rfl, ⟨nd, rfl⟩⟩; refine ⟨_, rfl, ?_⟩))
   (try simp only [Act.put, List.setIfInBounds_toArray, List.set_cons_zero, List.set_cons_succ])
   go_cut [24] (fun v24 wc => ∃ (kq : Nat) (x24_7 : Bool), v24 = .bool x24_7 ∧ Aside0 (spec_l2Meets.j0 kq l0 a1 a2 x24_7 = some r) ∧ Aside0 (kq ≤ k) ∧ Drawn0 w wc)
   case first =>
    have H := HC8.out
    clear HC8
    obtain ⟨t270, A9, H⟩ := ob H
    by_cases c10 : t270 = true
    ·subst c10
     replace H := it H
     obtain ⟨t271, A11, H⟩ := ob H
     have H' := Aside0.mk H
     clear H
     go_wp2_with (first | ((with_reducible refine gc 31 rfl ?_); refine gl (some 18) Try.func31 #[.int .i64 a1] rfl ?_; (with_reducible refine (spec_l2Ref.calls a1 true _ A9.out).mono ?_); rintro e w' ⟨rfl, ⟨nd, rfl⟩⟩; refine ⟨_, rfl, ?_⟩) | (go_at_call 31; (with_reducible refine (spec_l2Ref.calls a2 t271 _ A11.out).mono ?_); rintro e w' ⟨rfl, ⟨nd, rfl⟩⟩))
     go_meet
     case rel => exact ⟨_, (!t271), (by first | rfl | (simp; done) | (simp [*]; done)), H', ⟨by first | omega | exact Nat.le_refl _⟩, by repeat (first | exact Drawn0.refl _ | apply Drawn0.step)⟩
    ·replace c10 := Bool.eq_false_iff.mpr c10
     subst c10
     replace H := ie H
     have H' := Aside0.mk H
     clear H
     go_wp2_with (first | ((with_reducible refine gc 31 rfl ?_); refine gl (some 18) Try.func31 #[.int .i64 a1] rfl ?_; (with_reducible refine (spec_l2Ref.calls a1 false _ A9.out).mono ?_); rintro e w' ⟨rfl, ⟨nd, rfl⟩⟩; refine ⟨_, rfl, ?_⟩))
     go_meet
     case rel => exact ⟨_, (true), (by first | rfl | (simp; done) | (simp [*]; done)), H', ⟨by first | omega | exact Nat.le_refl _⟩, by repeat (first | exact Drawn0.refl _ | apply Drawn0.step)⟩
   case rest =>
    clear HC8
    obtain ⟨kq, x24_7, rfl, HA, HJ7, ⟨mc7, rfl⟩⟩ := hcut
    cases kq with
    | zero => exact absurd HA.out (by simp [spec_l2Meets.j0])
    | succ kj7 =>
     have H := HA.out
     clear HA
     simp only [spec_l2Meets.j0] at H
     by_cases c12 : x24_7 = true
     ·subst c12
      replace H := it H
      obtain rfl := Option.some.inj H; clear H
      go_wp2
      go_ret
      exact ⟨by first | rfl | (simp; done) | (simp [*]; done), by repeat (first | exact Drawn0.refl _ | apply Drawn0.step)⟩
     ·replace c12 := Bool.eq_false_iff.mpr c12
      subst c12
      replace H := ie H
      by_cases c13 : a1 < 8
      ·rw [if_pos c13] at H
       have c13b0 : decide (a1 < 8) = true := decide_eq_true c13
       clear c13
       obtain rfl := Option.some.inj H; clear H
       go_wp2
       go_ret
       exact ⟨by first | rfl | (simp; done) | (simp [*]; done), by repeat (first | exact Drawn0.refl _ | apply Drawn0.step)⟩
      ·rw [if_neg c13] at H
       have c13b0 : decide (a1 < 8) = false := decide_eq_false c13
       clear c13
       by_cases c14 : a2 < 8
       ·rw [if_pos c14] at H
        have c14b0 : decide (a2 < 8) = true := decide_eq_true c14
        clear c14
        obtain rfl := Option.some.inj H; clear H
        go_wp2
        go_ret
        exact ⟨by first | rfl | (simp; done) | (simp [*]; done), by repeat (first | exact Drawn0.refl _ | apply Drawn0.step)⟩
       ·rw [if_neg c14] at H
        have c14b0 : decide (a2 < 8) = false := decide_eq_false c14
        clear c14
        obtain ⟨t272, A15, H⟩ := ob H
        obtain rfl := Option.some.inj H; clear H
        go_wp2_with (first | ((with_reducible refine gc 32 rfl ?_); refine gl (some 36) Try.func32 #[.slice A0 l0.length c0, .int .i64 (wrap64 (a1 - 8)), .int .i64 (wrap64 (a2 - 8))] rfl ?_; (with_reducible refine (spec_l2Join.calls kj7 _ _ l0 (wrap64 (a1 - 8)) (wrap64 (a2 - 8)) t272 _ ?side1 ?side2 A15.out).mono ?_); (case side1 => repeat (first | exact HR0.out | (with_reducible refine Kd.C_alloc ?_ _) | (with_reducible refine Kd.C_drewN ?_ _) | (with_reducible refine Kd.C_drew ?_))); (case side2 => exact HC0.out); rintro e w' ⟨rfl, ⟨nd, rfl⟩⟩; refine ⟨_, rfl, ?_⟩))
        go_ret
        exact ⟨by first | rfl | (simp; done) | (simp [*]; done), by repeat (first | exact Drawn0.refl _ | apply Drawn0.step)⟩
end Go.Proofs.Ytchegijjjakmpaa.P

end
section

namespace Go.Proofs.Ytchegijjjakmpaa.P
open Go.RowKit Go.Proofs.YtchegijjjakmpaaW.PrintWords Go.Proofs.YtchegijjjakmpaaW.PrintLast Go.Proofs.YtchegijjjakmpaaW.PrintMore
attribute [local go_sem] max2_int min2_int max_two min_two max_three min_three max_four min_four
set_option linter.unusedVariables false
set_option linter.unusedSimpArgs false
def spec_l11Join.T7 : Bool × List (List Nat × List Nat) := (true, [([], []), ([0], [0]), ([], []), ([], []), ([], []), ([4], [4]), ([], []), ([5, 6], [5, 6]), ([7], [7]), ([], []), ([9], [9]), ([], []), ([10, 11], [10, 11]), ([12], [12]), ([3, 8, 13], [3, 8, 13]), ([1, 2, 0, 1, 2, 3, 4, 5, 6, 7, 8, 9, 10, 11, 12, 13, 14], [1, 2]), ([15, 14, 14, 0, 1, 2, 3, 4, 5, 6, 7, 8, 9, 10, 11, 12, 13, 14], [14, 15])])
def spec_l11Join.B7 : List Nat := [0, 1, 0, 0, 0, 16, 0, 112, 240, 0, 512, 0, 3584, 7680, 16376, 32767, 65535]
theorem spec_l11Join.tab7 : rtab .any (opsOf Try.f12 7) = spec_l11Join.T7 := by kernel_rfl
theorem spec_l11Join.bits7 : waitsOk spec_l11Join.T7.2 spec_l11Join.B7 = true := by kernel_rfl
def spec_l11Join.T11 : Bool × List (List Nat × List Nat) := (true, [([], []), ([0], [0]), ([], []), ([], []), ([], []), ([4], [4]), ([], []), ([5, 6], [5, 6]), ([7], [7]), ([], []), ([9], [9]), ([], []), ([10, 11], [10, 11]), ([12], [12]), ([3, 8, 13], [3, 8, 13]), ([1, 2, 0, 1, 2, 3, 4, 5, 6, 7, 8, 9, 10, 11, 12, 13, 14], [1, 2]), ([15, 14, 14, 0, 1, 2, 3, 4, 5, 6, 7, 8, 9, 10, 11, 12, 13, 14], [14, 15])])
def spec_l11Join.B11 : List Nat := [0, 1, 0, 0, 0, 16, 0, 112, 240, 0, 512, 0, 3584, 7680, 16376, 32767, 65535]
theorem spec_l11Join.tab11 : rtab .any (opsOf Try.f12 11) = spec_l11Join.T11 := by kernel_rfl
theorem spec_l11Join.bits11 : waitsOk spec_l11Join.T11.2 spec_l11Join.B11 = true := by kernel_rfl
set_option maxHeartbeats 8000000 in
set_option maxRecDepth 100000 in
theorem spec_l11Join.calls (k : Nat) (A0 : Option Addr) (c0 : Nat) (l0 : List (S48)) (a1_0 : Bool) (A1_1 : Option Addr) (c1_1 : Nat) (l1_1 : List Int) (A1_2 : Option Addr) (c1_2 : Nat) (l1_2 : List Int) (a2_0 : Bool) (A2_1 : Option Addr) (c2_1 : Nat) (l2_1 : List Int) (A2_2 : Option Addr) (c2_2 : Nat) (l2_2 : List Int) (r1 : Bool) (r2 : List Int) (r3 : List Int) (w : World) (hr0 : Kd.C k48 w A0 l0.length l0) (hc0 : l0.length ≤ c0) (hr1_1 : Kd.C (Kd.int .i64) w A1_1 l1_1.length l1_1) (hc1_1 : l1_1.length ≤ c1_1) (hr1_2 : Kd.C (Kd.int .i64) w A1_2 l1_2.length l1_2) (hc1_2 : l1_2.length ≤ c1_2) (hr2_1 : Kd.C (Kd.int .i64) w A2_1 l2_1.length l2_1) (hc2_1 : l2_1.length ≤ c2_1) (hr2_2 : Kd.C (Kd.int .i64) w A2_2 l2_2.length l2_2) (hc2_2 : l2_2.length ≤ c2_2) (h : spec_l11Join.f k l0 a1_0 l1_1 l1_2 a2_0 l2_1 l2_2 = some (r1, r2, r3)) :
  Calls Try.prog 12 #[.slice A0 l0.length c0, .agg #[.bool a1_0, .slice A1_1 l1_1.length c1_1, .slice A1_2 l1_2.length c1_2], .agg #[.bool a2_0, .slice A2_1 l2_1.length c2_1, .slice A2_2 l2_2.length c2_2]] w fun e w' => ∃ v1_ v2_ : Value, e = .returned (.agg #[.bool r1, v1_, v2_]) ∧ Kd.R (Kd.int .i64) 3 w' w.heap.size (fun k_ => some k_ ≠ (v2_ : Value).ownBlock) v1_ r2 ∧ Kd.R (Kd.int .i64) 3 w' w.heap.size (fun k_ => some k_ ≠ (v1_ : Value).ownBlock) v2_ r3 ∧ Below w.heap.size w w' := by
 have hu26 := Try.underlying26
 have HR0 := Aside0.mk hr0
 have HC0 := Aside0.mk hc0
 clear hr0 hc0
 have HR1_1 := Aside0.mk hr1_1
 have HC1_1 := Aside0.mk hc1_1
 clear hr1_1 hc1_1
 have HR1_2 := Aside0.mk hr1_2
 have HC1_2 := Aside0.mk hc1_2
 clear hr1_2 hc1_2
 have HR2_1 := Aside0.mk hr2_1
 have HC2_1 := Aside0.mk hc2_1
 clear hr2_1 hc2_1
 have HR2_2 := Aside0.mk hr2_2
 have HC2_2 := Aside0.mk hc2_2
 clear hr2_2 hc2_2
 have HB := Aside0.mk (Below.refl w.heap.size w)
 have H : ((spec_l11Copy.f a1_0 l1_1 l1_2).bind fun bt276 => (if (l1_2.length : Int) = (l2_2.length : Int) then (spec_l11Join.l0 k l0 0 a1_0 l1_1 l1_2 a2_0 l2_1 l2_2 bt276.1 bt276.2.1 bt276.2.2) else ((spec_l11None.f).bind fun bt284 => (some (bt284.1, bt284.2.1, bt284.2.2))))) = some (r1, r2, r3) := h
 clear h
 replace H := Option.bind_eq_some_iff.mp H
 obtain ⟨⟨t276, t277, t280⟩, A40, H⟩ := H
 replace H : (if (l1_2.length : Int) = (l2_2.length : Int) then (spec_l11Join.l0 k l0 0 a1_0 l1_1 l1_2 a2_0 l2_1 l2_2 t276 t277 t280) else ((spec_l11None.f).bind fun bt284 => (some (bt284.1, bt284.2.1, bt284.2.2)))) = some (r1, r2, r3) := H
 have A4 := Aside0.mk A40
 clear A40
 by_cases c5 : (l1_2.length : Int) = (l2_2.length : Int)
 ·rw [if_pos c5] at H
  have c5b0 := beq_iff_eq.mpr c5
  have c5b1 := bne_eq_false_iff_eq.mpr c5
  have c5b2 : (l1_2.length == l2_2.length) = true := by first | simpa using c5 | (simp at c5 ⊢; omega)
  clear c5
  have H' := Aside0.mk H
  clear H
  go_enter Try.func12, Try.ntmps12
  go_wp2_with (first | ((with_reducible refine gd 4 rfl ?_); refine bx 4 #[.bool a1_0, .slice A1_1 l1_1.length c1_1, .slice A1_2 l1_2.length c1_2] 26 ?_; intro gb273 hg w6 hbox hb; have BK273 := Aside0.mk hbox; have GW273 := hz HB hg; have GE273 := hz HB hg; replace HB := hs HB hb; clear hb hbox hg) | ((with_reducible refine gd 5 rfl ?_); refine bx 5 #[.bool a2_0, .slice A2_1 l2_1.length c2_1, .slice A2_2 l2_2.length c2_2] 26 ?_; intro gb274 hg w7 hbox hb; have BK274 := Aside0.mk hbox; have GW274 := hz HB hg; have GE274 := hz HB hg; have NB273_274 := nl BK273 hg; have NB274_273 := ng BK273 hg; replace BK273 := kb BK273 hb; replace HB := hs HB hb; clear hb hbox hg) | ((with_reducible refine gd 6 rfl ?_); refine bx 6 #[.bool false, .slice none 0 0, .slice none 0 0] 26 ?_; intro gb275 hg w8 hbox hb; have BK275 := Aside0.mk hbox; have GW275 := hz HB hg; have GE275 := hz HB hg; have NB273_275 := nl BK273 hg; have NB275_273 := ng BK273 hg; have NB274_275 := nl BK274 hg; have NB275_274 := ng BK274 hg; replace BK273 := kb BK273 hb; replace BK274 := kb BK274 hb; replace HB := hs HB hb; clear hb hbox hg; have hnb9 := NB273_274.out; have hnc9 := NB274_273.out; have hnb10 := NB273_275.out; have hnc10 := NB275_273.out; obtain ⟨_,_,_,_,_,_⟩ := cf3 BK273) | ((with_reducible refine gc 20 rfl ?_); refine gl (some 11) Try.func20 #[.agg #[.bool a1_0, .slice A1_1 l1_1.length c1_1, .slice A1_2 l1_2.length c1_2]] rfl ?_; (with_reducible refine (spec_l11Copy.calls a1_0 _ _ l1_1 _ _ l1_2 t276 t277 t280 _ ?side1 ?side2 ?side3 ?side4 A4.out).mono ?_); (case side1 => exact cb HR1_1.out); (case side2 => exact HC1_1.out); (case side3 => exact cb HR1_2.out); (case side4 => exact HC1_2.out); rintro e w12 ⟨v278, v281, rfl, ho0, ho1, hb⟩; refine ⟨_, rfl, ?_⟩; have HO279 := Aside0.mk (Kd.R_lower ho0 (below_size bl)); have HO282 := Aside0.mk (Kd.R_lower ho1 (below_size bl)); replace BK273 := kb BK273 hb; replace BK274 := kb BK274 hb; replace BK275 := kb BK275 hb; replace HB := hs HB hb) | ((with_reducible refine gd 7 rfl ?_); refine bx 7 #[.bool false, .slice none 0 0, .slice none 0 0] 26 ?_; intro gb283 hg w13 hbox hb; have BK283 := Aside0.mk hbox; have GW283 := hz HB hg; have GE283 := hz HB hg; have NB273_283 := nl BK273 hg; have NB283_273 := ng BK273 hg; have NB274_283 := nl BK274 hg; have NB283_274 := ng BK274 hg; have NB275_283 := nl BK275 hg; have NB283_275 := ng BK275 hg; replace HO279 := Aside0.mk (Kd.R_below HO279.out hb); replace HO282 := Aside0.mk (Kd.R_below HO282.out hb); replace BK273 := kb BK273 hb; replace BK274 := kb BK274 hb; replace BK275 := kb BK275 hb; replace HB := hs HB hb; clear hb hbox hg; have hnb14 := NB283_273.out; have hnc14 := NB273_283.out; have hnb15 := NB283_274.out; have hnc15 := NB274_283.out; have hnb16 := NB283_275.out; have hnc16 := NB275_283.out; obtain ⟨_,_,_,_,_,_⟩ := cf3 BK283; obtain ⟨Ao18, co18, eo18⟩ := Kd.R_slice HO279.out; subst eo18; obtain ⟨Ao19, co19, eo19⟩ := Kd.R_slice HO282.out; subst eo19; obtain ⟨_,_,_,_,_,_⟩ := cf3 BK273; have hnb21 := NB274_275.out; have hnc21 := NB275_274.out; obtain ⟨_,_,_,_,_,_⟩ := cf3 BK274))
  go_loopg [8] k (fun kq v8 w' => ∃ (x8_1 : Int) (x284001_1 : List Int) (x284002_1 : List Int) (u284001 : Value) (u284002 : Value), v8 = .int .i64 x8_1 ∧ Aside0 (spec_l11Join.l0 kq l0 x8_1 a1_0 l1_1 l1_2 a2_0 l2_1 l2_2 t276 x284001_1 x284002_1 = some (r1, r2, r3)) ∧ Aside0 (kq ≤ k) ∧ Aside0 (Kd.R (Kd.int .i64) 3 w' w.heap.size (fun k_ => some k_ ≠ (u284002 : Value).ownBlock) u284001 x284001_1) ∧ Aside0 (Kd.R (Kd.int .i64) 3 w' w.heap.size (fun k_ => some k_ ≠ (u284001 : Value).ownBlock) u284002 x284002_1) ∧ Aside0 (w'.heap[gb273]? = some (.cells #[.bool a1_0, (.slice A1_1 l1_1.length c1_1), (.slice A1_2 l1_2.length c1_2)] 26 (0, 0))) ∧ Aside0 (w'.heap[gb274]? = some (.cells #[.bool a2_0, (.slice A2_1 l2_1.length c2_1), (.slice A2_2 l2_2.length c2_2)] 26 (0, 0))) ∧ Aside0 (w'.heap[gb275]? = some (.cells #[.bool false, (.slice none 0 0), (.slice none 0 0)] 26 (0, 0))) ∧ Aside0 (w'.heap[gb283]? = some (.cells #[.bool t276, u284001, u284002] 26 (0, 0))) ∧ Aside0 (Below w.heap.size w w'))
  case atStart => exact ⟨(0), (t277), (t280), (.slice Ao18 t277.length co18), (.slice Ao19 t280.length co19), (by first | rfl | (simp; done) | (simp [*]; done)), H', ⟨Nat.le_refl _⟩, ⟨by exact Kd.R_mono (Kd.R_far (p := ⟨gb283, 2, none⟩) (Kd.R_far (p := ⟨gb283, 1, none⟩) (Kd.R_far (p := ⟨gb283, 0, none⟩) (Kd.R_types HO279.out BK283.out (by decide)) (fun _ hk => hk.2) (.bool t276)) (fun _ hk => hk.2) (.slice Ao18 t277.length co18)) (fun _ hk => hk.2) (.slice Ao19 t280.length co19)) (fun _ hk => hk.1)⟩, ⟨by exact Kd.R_mono (Kd.R_far (p := ⟨gb283, 2, none⟩) (Kd.R_far (p := ⟨gb283, 1, none⟩) (Kd.R_far (p := ⟨gb283, 0, none⟩) (Kd.R_types HO282.out BK283.out (by decide)) (fun _ hk => hk.2) (.bool t276)) (fun _ hk => hk.2) (.slice Ao18 t277.length co18)) (fun _ hk => hk.2) (.slice Ao19 t280.length co19)) (fun _ hk => hk.1)⟩, kf, kf, kf, kf, ⟨bl⟩⟩
  case round =>
   clear H'
   obtain ⟨x8_1, x284001_1, x284002_1, u284001, u284002, rfl, HA, HK1, HO_284001, HO_284002, BK273, BK274, BK275, BK283, HB⟩ := hrel
   cases gk with
   | zero => exact absurd HA.out (by simp [spec_l11Join.l0])
   | succ k1 =>
    have H := HA.out
    clear HA
    simp only [spec_l11Join.l0] at H
    by_cases c23 : x8_1 < (l1_1.length : Int)
    ·rw [if_pos c23] at H
     have c23b0 : decide (x8_1 < (l1_1.length : Int)) = true := decide_eq_true c23
     clear c23
     by_cases c24 : 0 ≤ x8_1
     ·rw [if_pos c24] at H
      have c24b0 : decide (0 ≤ x8_1) = true := decide_eq_true c24
      clear c24
      by_cases c25 : x8_1 < (l2_1.length : Int)
      ·rw [if_pos c25] at H
       have c25b0 : decide (x8_1 < (l2_1.length : Int)) = true := decide_eq_true c25
       clear c25
       obtain ⟨t293, A26, H⟩ := ob H
       by_cases c27 : x8_1 < (x284001_1.length : Int)
       ·rw [if_pos c27] at H
        have c27b0 : decide (x8_1 < (x284001_1.length : Int)) = true := decide_eq_true c27
        clear c27
        obtain ⟨y294, hy294⟩ : ∃ y_ : List Int, y_ = (x284001_1.set (x8_1 : Int).toNat t293) := ⟨_, rfl⟩
        replace H : (spec_l11Join.l0 k1 l0 (wrap64 (x8_1 + 1)) a1_0 l1_1 l1_2 a2_0 l2_1 l2_2 t276 y294 x284002_1) = some (r1, r2, r3) := by first | (rw [hy294]; with_reducible exact H) | (have H2_ := (Option.bind_some _ _).symm.trans H; rw [hy294]; with_reducible exact H2_) | (have H2_ := (Option.bind_some _ _).symm.trans H; with_reducible exact H2_) | with_reducible exact H | (rw [hy294]; exact H) | exact H
        have Ny294 := Aside0.mk hy294
        clear hy294
        have H' := Aside0.mk H
        clear H
        have hnb29 := NB273_274.out
        have hnc29 := NB274_273.out
        have hnb30 := NB273_275.out
        have hnc30 := NB275_273.out
        have hnb31 := NB273_283.out
        have hnc31 := NB283_273.out
        obtain ⟨_,_,_,_,_,_⟩ := cf3 BK273
        try go_wp2
        replace HO_284001 := Aside0.mk (Kd.R_drew HO_284001.out)
        replace HO_284002 := Aside0.mk (Kd.R_drew HO_284002.out)
        replace BK273 := Aside0.mk (blk_drew BK273.out)
        replace BK274 := Aside0.mk (blk_drew BK274.out)
        replace BK275 := Aside0.mk (blk_drew BK275.out)
        replace BK283 := Aside0.mk (blk_drew BK283.out)
        replace HB := Aside0.mk (below_drew1 HB.out)
        have p291 : 0 ≤ (x8_1 : Int) := od
        have q291 : x8_1 < (l1_1.length : Int) := od
        obtain ⟨ad291, e291, hx291_0⟩ := Kd.at_int HR1_1.out x8_1 p291 q291
        have hw291_0 := hx291_0
        cases e291
        replace hx291_0 := hc HB hx291_0
        replace p291 := eq_true p291
        replace q291 := eq_true q291
        have p292 : 0 ≤ (x8_1 : Int) := od
        have q292 : x8_1 < (l2_1.length : Int) := od
        obtain ⟨ad292, e292, hx292_0⟩ := Kd.at_int HR2_1.out x8_1 p292 q292
        have hw292_0 := hx292_0
        cases e292
        replace hx292_0 := hc HB hx292_0
        replace p292 := eq_true p292
        replace q292 := eq_true q292
        refine start_ (n := 17) (S := fun w' => w'.cell? ⟨gb283, 0, none⟩ = some (.bool t276) ∧ w'.cell? ⟨gb283, 1, none⟩ = some (u284001) ∧ w'.cell? ⟨gb283, 2, none⟩ = some (u284002) ∧ w'.cell? ⟨gb273, 0, none⟩ = some (.bool a1_0) ∧ w'.cell? ⟨gb273, 1, none⟩ = some (.slice (some ad291) l1_1.length c1_1) ∧ w'.cell? ⟨gb273, 2, none⟩ = some (.slice A1_2 l1_2.length c1_2) ∧ w'.cell? ⟨gb274, 0, none⟩ = some (.bool a2_0) ∧ w'.cell? ⟨gb274, 1, none⟩ = some (.slice (some ad292) l2_1.length c2_1) ∧ w'.cell? ⟨gb274, 2, none⟩ = some (.slice A2_2 l2_2.length c2_2) ∧ w'.cell? (ad291.add (x8_1).toNat) = some (.int .i64 (rd l1_1 x8_1)) ∧ w'.cell? (ad292.add (x8_1).toNat) = some (.int .i64 (rd l2_1 x8_1))) (ds := [16]) #[false, false, false, false, false, false, false, false, false, false, false, false, false, false, false, false, false] (by kernel_rfl) rfl rfl ⟨(blk_cell BK283.out 0).trans rfl, (blk_cell BK283.out 1).trans rfl, (blk_cell BK283.out 2).trans rfl, (blk_cell BK273.out 0).trans rfl, (blk_cell BK273.out 1).trans rfl, (blk_cell BK273.out 2).trans rfl, (blk_cell BK274.out 0).trans rfl, (blk_cell BK274.out 1).trans rfl, (blk_cell BK274.out 2).trans rfl, ((HB.out.cell (World.block_lt_of_cell? w _ hw291_0)).trans hw291_0), ((HB.out.cell (World.block_lt_of_cell? w _ hw292_0)).trans hw292_0)⟩ (fun hHeld => ?_); refine with_tabW spec_l11Join.tab7 spec_l11Join.bits7 (fun HT_ HW_ => ?_)
        generalize wr.drew = w33 at HO_284001 HO_284002 BK273 BK274 BK275 BK283 HB hx291_0 hx292_0 hHeld ⊢
        refine pu 0 27 #[true, false, false, false, false, false, false, false, false, false, false, false, false, false, false, false, false] HT_ rfl rfl ?_
        refine pu 2 29 #[true, false, true, false, false, false, false, false, false, false, false, false, false, false, false, false, false] HT_ rfl rfl ?_
        refine pu 3 30 #[true, false, true, true, false, false, false, false, false, false, false, false, false, false, false, false, false] HT_ rfl rfl ?_
        refine pu 4 31 #[true, false, true, true, true, false, false, false, false, false, false, false, false, false, false, false, false] HT_ rfl rfl ?_
        refine pu 6 33 #[true, false, true, true, true, false, true, false, false, false, false, false, false, false, false, false, false] HT_ rfl rfl ?_
        refine pu 9 36 #[true, false, true, true, true, false, true, false, false, true, false, false, false, false, false, false, false] HT_ rfl rfl ?_
        refine pu 11 38 #[true, false, true, true, true, false, true, false, false, true, false, true, false, false, false, false, false] HT_ rfl rfl ?_
        refine ta 1 28 #[true, true, true, true, true, false, true, false, false, true, false, true, false, false, false, false, false] HT_ HW_ hHeld rfl rfl ?_
        refine ta 5 32 #[true, true, true, true, true, true, true, false, false, true, false, true, false, false, false, false, false] HT_ HW_ hHeld rfl rfl ?_
        refine pu 7 34 #[true, true, true, true, true, true, true, true, false, true, false, true, false, false, false, false, false] HT_ rfl rfl ?_
        refine ta 8 35 #[true, true, true, true, true, true, true, true, true, true, false, true, false, false, false, false, false] HT_ HW_ hHeld rfl rfl ?_
        refine ta 10 37 #[true, true, true, true, true, true, true, true, true, true, true, true, false, false, false, false, false] HT_ HW_ hHeld rfl rfl ?_
        refine pu 12 39 #[true, true, true, true, true, true, true, true, true, true, true, true, true, false, false, false, false] HT_ rfl rfl ?_
        refine ta 13 40 #[true, true, true, true, true, true, true, true, true, true, true, true, true, true, false, false, false] HT_ HW_ hHeld rfl rfl ?_
        refine one_ (i := 14) (N := some 41) #[true, true, true, true, true, true, true, true, true, true, true, true, true, true, true, false, false] rfl rfl (one_of HT_.out (by kernel_rfl)) (by decide) (fun K hK => ?_)
        refine gs Try.func22 #[.slice A0 l0.length c0, .int .i64 (rd l1_1 x8_1), .int .i64 (rd l2_1 x8_1)] rfl rfl ?_
        with_reducible refine (spec_l2Meets.calls k1 _ _ l0 (rd l1_1 x8_1) (rd l2_1 x8_1) t293 _ ?side1 ?side2 A26.out).mono ?_
        (case side1 => exact cb HR0.out)
        (case side2 => exact HC0.out)
        rintro e w' ⟨rfl, ⟨nd, rfl⟩⟩
        refine ⟨_, rfl, ?_⟩
        have p28 : 0 ≤ (x8_1 : Int) := od
        have q28 : (x8_1 : Int) < ((x284001_1.length : Int) : Int) := od
        obtain ⟨go28, co28, eo28, gb28, gl28, cl28, HG28⟩ := Kd.R_form HO_284001.out (by omega)
        (first | cases eo28 | (injection eo28 with ea_ en_ ec_; (first | subst ea_ | (injection ea_ with ea_; subst ea_)); subst ec_; clear en_))
        have GB28 := Aside0.mk gb28
        have GG28 := Aside0.mk HG28
        clear gb28 gl28 HG28
        obtain ⟨hx28_0, hf28_0⟩ := Kd.R_celln 0 HO_284001.out (x8_1 : Int) p28 q28
        replace p28 := eq_true p28
        replace q28 := eq_true q28
        have HP34 := Kd.R_putn HO_284001.out (x8_1 : Int) t293
        rw [← Ny294.out] at HP34
        have HQ34 := Aside0.mk HP34
        clear HP34
        refine hK.out _ _ ⟨(blk_cell BK283.out 0).trans rfl, (blk_cell BK283.out 1).trans rfl, (blk_cell BK283.out 2).trans rfl, (blk_cell BK273.out 0).trans rfl, (blk_cell BK273.out 1).trans rfl, (blk_cell BK273.out 2).trans rfl, (blk_cell BK274.out 0).trans rfl, (blk_cell BK274.out 1).trans rfl, (blk_cell BK274.out 2).trans rfl, ((HB.out.cell (World.block_lt_of_cell? w _ hw291_0)).trans hw291_0), ((HB.out.cell (World.block_lt_of_cell? w _ hw292_0)).trans hw292_0)⟩ (fun hHeld => ?_)
        clear hK K
        refine no 41 ?_
        refine pu 15 42 #[true, true, true, true, true, true, true, true, true, true, true, true, true, true, true, true, false] HT_ rfl rfl ?_
        refine last_ (i := 16) (N := none) #[true, true, true, true, true, true, true, true, true, true, true, true, true, true, true, true, true] rfl rfl (one_of HT_.out (by kernel_rfl)) (by decide) (fun K hK => ?_)
        refine skip_ (w1 := ?_) (by rfl) rfl ?_ ?_
        rotate_left
        ·go_simp
         rfl
        refine hK.out _ _ ?_
        clear hK K
        refine done_ (done_of HT_.out (by kernel_rfl)) ?_
        try go_wp2
        go_roundg k1
        case measure => have := HK1.out; omega
        case rel => exact ⟨(wrap64 (x8_1 + 1)), (y294), (x284002_1), (.slice (some ⟨go28, 0, none⟩) x284001_1.length co28), (u284002), (by first | rfl | (simp; done) | (simp [*]; done)), H', ⟨by have := HK1.out; omega⟩, ⟨HQ34.out⟩, ⟨by exact Kd.R_mono (Kd.R_far (p := ⟨go28, (x8_1 : Int).toNat, none⟩) (Kd.R_mono HO_284002.out (fun k_ hk => (⟨hk, fun e_ => hk (by rw [e_]; rfl)⟩ : _ ∧ k_ ≠ go28))) (fun _ hk => hk.2) (.int .i64 t293)) (fun _ hk => hk.1)⟩, ⟨by (with_reducible repeat (first | refine blk_drewN ?_ _ | refine blk_drew ?_ | refine blk_alloc ?_ _)); refine blk_far ?_ (by have h_ := Kd.R_ne HO_284001.out BK273.out (by decide); intro e_; exact h_ (by rw [e_]; rfl)) _; (with_reducible repeat (first | refine blk_drewN ?_ _ | refine blk_drew ?_ | refine blk_alloc ?_ _)); exact BK273.out⟩, ⟨by (with_reducible repeat (first | refine blk_drewN ?_ _ | refine blk_drew ?_ | refine blk_alloc ?_ _)); refine blk_far ?_ (by have h_ := Kd.R_ne HO_284001.out BK274.out (by decide); intro e_; exact h_ (by rw [e_]; rfl)) _; (with_reducible repeat (first | refine blk_drewN ?_ _ | refine blk_drew ?_ | refine blk_alloc ?_ _)); exact BK274.out⟩, ⟨by (with_reducible repeat (first | refine blk_drewN ?_ _ | refine blk_drew ?_ | refine blk_alloc ?_ _)); refine blk_far ?_ (by have h_ := Kd.R_ne HO_284001.out BK275.out (by decide); intro e_; exact h_ (by rw [e_]; rfl)) _; (with_reducible repeat (first | refine blk_drewN ?_ _ | refine blk_drew ?_ | refine blk_alloc ?_ _)); exact BK275.out⟩, ⟨by (with_reducible repeat (first | refine blk_drewN ?_ _ | refine blk_drew ?_ | refine blk_alloc ?_ _)); refine blk_far ?_ (by have h_ := Kd.R_ne HO_284001.out BK283.out (by decide); intro e_; exact h_ (by rw [e_]; rfl)) _; (with_reducible repeat (first | refine blk_drewN ?_ _ | refine blk_drew ?_ | refine blk_alloc ?_ _)); exact BK283.out⟩, ⟨bl⟩⟩
       ·rw [if_neg c27] at H
        exact absurd H (by simp)
      ·rw [if_neg c25] at H
       exact absurd H (by simp)
     ·rw [if_neg c24] at H
      exact absurd H (by simp)
    ·rw [if_neg c23] at H
     have c23b0 : decide (x8_1 < (l1_1.length : Int)) = false := decide_eq_false c23
     clear c23
     have H' := Aside0.mk H
     clear H
     have hnb35 := NB273_274.out
     have hnc35 := NB274_273.out
     have hnb36 := NB273_275.out
     have hnc36 := NB275_273.out
     have hnb37 := NB273_283.out
     have hnc37 := NB283_273.out
     obtain ⟨_,_,_,_,_,_⟩ := cf3 BK273
     go_wp2
     go_loopg [9] k1 (fun kq v9 w' => ∃ (x9_2 : Int) (x276000_2 : Bool) (x284001_2 : List Int) (x284002_2 : List Int) (u284001 : Value) (u284002 : Value), v9 = .int .i64 x9_2 ∧ Aside0 (spec_l11Join.l1 kq l0 x9_2 a1_0 l1_1 l1_2 a2_0 l2_1 l2_2 t276 x284001_2 x284002_2 = some (r1, r2, r3)) ∧ Aside0 (kq ≤ k1) ∧ Aside0 (Kd.R (Kd.int .i64) 3 w' w.heap.size (fun k_ => some k_ ≠ (u284002 : Value).ownBlock) u284001 x284001_2) ∧ Aside0 (Kd.R (Kd.int .i64) 3 w' w.heap.size (fun k_ => some k_ ≠ (u284001 : Value).ownBlock) u284002 x284002_2) ∧ Aside0 (w'.heap[gb273]? = some (.cells #[.bool a1_0, (.slice A1_1 l1_1.length c1_1), (.slice A1_2 l1_2.length c1_2)] 26 (0, 0))) ∧ Aside0 (w'.heap[gb274]? = some (.cells #[.bool a2_0, (.slice A2_1 l2_1.length c2_1), (.slice A2_2 l2_2.length c2_2)] 26 (0, 0))) ∧ Aside0 (w'.heap[gb275]? = some (.cells #[.bool x276000_2, (.slice none 0 0), (.slice none 0 0)] 26 (0, 0))) ∧ Aside0 (w'.heap[gb283]? = some (.cells #[.bool t276, u284001, u284002] 26 (0, 0))) ∧ Aside0 (Below w.heap.size w w'))
     case atStart => exact ⟨(0), (false), (x284001_1), (x284002_1), (u284001), (u284002), (by first | rfl | (simp; done) | (simp [*]; done)), H', ⟨Nat.le_refl _⟩, ⟨HO_284001.out⟩, ⟨HO_284002.out⟩, kk BK273, kk BK274, kk BK275, kk BK283, ⟨bl⟩⟩
     case round =>
      clear H'
      obtain ⟨x9_2, x276000_2, x284001_2, x284002_2, u284001, u284002, rfl, HA, HK2, HO_284001, HO_284002, BK273, BK274, BK275, BK283, HB⟩ := hrel
      cases gk with
      | zero => exact absurd HA.out (by simp [spec_l11Join.l1])
      | succ k2 =>
       have H := HA.out
       clear HA
       simp only [spec_l11Join.l1] at H
       by_cases c39 : x9_2 < (l1_2.length : Int)
       ·rw [if_pos c39] at H
        have c39b0 : decide (x9_2 < (l1_2.length : Int)) = true := decide_eq_true c39
        clear c39
        by_cases c40 : 0 ≤ x9_2
        ·rw [if_pos c40] at H
         have c40b0 : decide (0 ≤ x9_2) = true := decide_eq_true c40
         clear c40
         by_cases c41 : x9_2 < (l2_2.length : Int)
         ·rw [if_pos c41] at H
          have c41b0 : decide (x9_2 < (l2_2.length : Int)) = true := decide_eq_true c41
          clear c41
          obtain ⟨t297, A42, H⟩ := ob H
          by_cases c43 : x9_2 < (x284002_2.length : Int)
          ·rw [if_pos c43] at H
           have c43b0 : decide (x9_2 < (x284002_2.length : Int)) = true := decide_eq_true c43
           clear c43
           obtain ⟨y298, hy298⟩ : ∃ y_ : List Int, y_ = (x284002_2.set (x9_2 : Int).toNat t297) := ⟨_, rfl⟩
           replace H : (if t297 = 0 then ((spec_l11None.f).bind fun bt300 => (some (bt300.1, bt300.2.1, bt300.2.2))) else (spec_l11Join.l1 k2 l0 (wrap64 (x9_2 + 1)) a1_0 l1_1 l1_2 a2_0 l2_1 l2_2 t276 x284001_2 y298)) = some (r1, r2, r3) := by first | (rw [hy298]; with_reducible exact H) | (have H2_ := (Option.bind_some _ _).symm.trans H; rw [hy298]; with_reducible exact H2_) | (have H2_ := (Option.bind_some _ _).symm.trans H; with_reducible exact H2_) | with_reducible exact H | (rw [hy298]; exact H) | exact H
           have Ny298 := Aside0.mk hy298
           clear hy298
           by_cases c46 : t297 = 0
           ·rw [if_pos c46] at H
            have c46b0 := beq_iff_eq.mpr c46
            have c46b1 := bne_eq_false_iff_eq.mpr c46
            clear c46
            replace H := Option.bind_eq_some_iff.mp H
            obtain ⟨⟨t300, t301, t304⟩, A470, H⟩ := H
            replace H : (some (t300, t301, t304)) = some (r1, r2, r3) := H
            have A47 := Aside0.mk A470
            clear A470
            simp only [Option.some.injEq, Prod.mk.injEq] at H
            obtain ⟨rfl, rfl, rfl⟩ := H
            have hnb48 := NB273_274.out
            have hnc48 := NB274_273.out
            have hnb49 := NB273_275.out
            have hnc49 := NB275_273.out
            have hnb50 := NB273_283.out
            have hnc50 := NB283_273.out
            obtain ⟨_,_,_,_,_,_⟩ := cf3 BK273
            try go_wp2
            replace HO_284001 := Aside0.mk (Kd.R_drew HO_284001.out)
            replace HO_284002 := Aside0.mk (Kd.R_drew HO_284002.out)
            replace BK273 := Aside0.mk (blk_drew BK273.out)
            replace BK274 := Aside0.mk (blk_drew BK274.out)
            replace BK275 := Aside0.mk (blk_drew BK275.out)
            replace BK283 := Aside0.mk (blk_drew BK283.out)
            replace HB := Aside0.mk (below_drew1 HB.out)
            have p295 : 0 ≤ (x9_2 : Int) := od
            have q295 : x9_2 < (l1_2.length : Int) := od
            obtain ⟨ad295, e295, hx295_0⟩ := Kd.at_int HR1_2.out x9_2 p295 q295
            have hw295_0 := hx295_0
            cases e295
            replace hx295_0 := hc HB hx295_0
            replace p295 := eq_true p295
            replace q295 := eq_true q295
            have p296 : 0 ≤ (x9_2 : Int) := od
            have q296 : x9_2 < (l2_2.length : Int) := od
            obtain ⟨ad296, e296, hx296_0⟩ := Kd.at_int HR2_2.out x9_2 p296 q296
            have hw296_0 := hx296_0
            cases e296
            replace hx296_0 := hc HB hx296_0
            replace p296 := eq_true p296
            replace q296 := eq_true q296
            refine start_ (n := 17) (S := fun w' => w'.cell? ⟨gb283, 0, none⟩ = some (.bool t276) ∧ w'.cell? ⟨gb283, 1, none⟩ = some (u284001) ∧ w'.cell? ⟨gb283, 2, none⟩ = some (u284002) ∧ w'.cell? ⟨gb273, 0, none⟩ = some (.bool a1_0) ∧ w'.cell? ⟨gb273, 1, none⟩ = some (.slice A1_1 l1_1.length c1_1) ∧ w'.cell? ⟨gb273, 2, none⟩ = some (.slice (some ad295) l1_2.length c1_2) ∧ w'.cell? ⟨gb274, 0, none⟩ = some (.bool a2_0) ∧ w'.cell? ⟨gb274, 1, none⟩ = some (.slice A2_1 l2_1.length c2_1) ∧ w'.cell? ⟨gb274, 2, none⟩ = some (.slice (some ad296) l2_2.length c2_2) ∧ w'.cell? (ad295.add (x9_2).toNat) = some (.int .i64 (rd l1_2 x9_2)) ∧ w'.cell? (ad296.add (x9_2).toNat) = some (.int .i64 (rd l2_2 x9_2))) (ds := [16]) #[false, false, false, false, false, false, false, false, false, false, false, false, false, false, false, false, false] (by kernel_rfl) rfl rfl ⟨(blk_cell BK283.out 0).trans rfl, (blk_cell BK283.out 1).trans rfl, (blk_cell BK283.out 2).trans rfl, (blk_cell BK273.out 0).trans rfl, (blk_cell BK273.out 1).trans rfl, (blk_cell BK273.out 2).trans rfl, (blk_cell BK274.out 0).trans rfl, (blk_cell BK274.out 1).trans rfl, (blk_cell BK274.out 2).trans rfl, ((HB.out.cell (World.block_lt_of_cell? w _ hw295_0)).trans hw295_0), ((HB.out.cell (World.block_lt_of_cell? w _ hw296_0)).trans hw296_0)⟩ (fun hHeld => ?_); refine with_tabW spec_l11Join.tab11 spec_l11Join.bits11 (fun HT_ HW_ => ?_)
            generalize wr.drew = w52 at HO_284001 HO_284002 BK273 BK274 BK275 BK283 HB hx295_0 hx296_0 hHeld ⊢
            refine pu 0 50 #[true, false, false, false, false, false, false, false, false, false, false, false, false, false, false, false, false] HT_ rfl rfl ?_
            refine pu 2 52 #[true, false, true, false, false, false, false, false, false, false, false, false, false, false, false, false, false] HT_ rfl rfl ?_
            refine pu 3 53 #[true, false, true, true, false, false, false, false, false, false, false, false, false, false, false, false, false] HT_ rfl rfl ?_
            refine pu 4 54 #[true, false, true, true, true, false, false, false, false, false, false, false, false, false, false, false, false] HT_ rfl rfl ?_
            refine pu 6 56 #[true, false, true, true, true, false, true, false, false, false, false, false, false, false, false, false, false] HT_ rfl rfl ?_
            refine pu 9 59 #[true, false, true, true, true, false, true, false, false, true, false, false, false, false, false, false, false] HT_ rfl rfl ?_
            refine pu 11 61 #[true, false, true, true, true, false, true, false, false, true, false, true, false, false, false, false, false] HT_ rfl rfl ?_
            refine ta 1 51 #[true, true, true, true, true, false, true, false, false, true, false, true, false, false, false, false, false] HT_ HW_ hHeld rfl rfl ?_
            refine ta 5 55 #[true, true, true, true, true, true, true, false, false, true, false, true, false, false, false, false, false] HT_ HW_ hHeld rfl rfl ?_
            refine pu 7 57 #[true, true, true, true, true, true, true, true, false, true, false, true, false, false, false, false, false] HT_ rfl rfl ?_
            refine ta 8 58 #[true, true, true, true, true, true, true, true, true, true, false, true, false, false, false, false, false] HT_ HW_ hHeld rfl rfl ?_
            refine ta 10 60 #[true, true, true, true, true, true, true, true, true, true, true, true, false, false, false, false, false] HT_ HW_ hHeld rfl rfl ?_
            refine pu 12 62 #[true, true, true, true, true, true, true, true, true, true, true, true, true, false, false, false, false] HT_ rfl rfl ?_
            refine ta 13 63 #[true, true, true, true, true, true, true, true, true, true, true, true, true, true, false, false, false] HT_ HW_ hHeld rfl rfl ?_
            refine one_ (i := 14) (N := some 64) #[true, true, true, true, true, true, true, true, true, true, true, true, true, true, true, false, false] rfl rfl (one_of HT_.out (by kernel_rfl)) (by decide) (fun K hK => ?_)
            refine gs Try.func22 #[.slice A0 l0.length c0, .int .i64 (rd l1_2 x9_2), .int .i64 (rd l2_2 x9_2)] rfl rfl ?_
            with_reducible refine (spec_l2Meets.calls k2 _ _ l0 (rd l1_2 x9_2) (rd l2_2 x9_2) t297 _ ?side1 ?side2 A42.out).mono ?_
            (case side1 => exact cb HR0.out)
            (case side2 => exact HC0.out)
            rintro e w' ⟨rfl, ⟨nd, rfl⟩⟩
            refine ⟨_, rfl, ?_⟩
            replace HO_284001 := Aside0.mk (Kd.R_drewN HO_284001.out nd)
            replace HO_284002 := Aside0.mk (Kd.R_drewN HO_284002.out nd)
            replace BK273 := Aside0.mk (blk_drewN BK273.out nd)
            replace BK274 := Aside0.mk (blk_drewN BK274.out nd)
            replace BK275 := Aside0.mk (blk_drewN BK275.out nd)
            replace BK283 := Aside0.mk (blk_drewN BK283.out nd)
            replace HB := Aside0.mk (pw_below_drewN HB.out nd)
            generalize w52.drewN nd = w52 at HO_284001 HO_284002 BK273 BK274 BK275 BK283 HB ⊢
            have p44 : 0 ≤ (x9_2 : Int) := od
            have q44 : (x9_2 : Int) < ((x284002_2.length : Int) : Int) := od
            obtain ⟨go44, co44, eo44, gb44, gl44, cl44, HG44⟩ := Kd.R_form HO_284002.out (by omega)
            (first | cases eo44 | (injection eo44 with ea_ en_ ec_; (first | subst ea_ | (injection ea_ with ea_; subst ea_)); subst ec_; clear en_))
            have GB44 := Aside0.mk gb44
            have GG44 := Aside0.mk HG44
            clear gb44 gl44 HG44
            obtain ⟨hx44_0, hf44_0⟩ := Kd.R_celln 0 HO_284002.out (x9_2 : Int) p44 q44
            replace p44 := eq_true p44
            replace q44 := eq_true q44
            have HP53 := Kd.R_putn HO_284002.out (x9_2 : Int) t297
            rw [← Ny298.out] at HP53
            have HQ53 := Aside0.mk HP53
            clear HP53
            refine hK.out _ _ ⟨(blk_cell BK283.out 0).trans rfl, (blk_cell BK283.out 1).trans rfl, (blk_cell BK283.out 2).trans rfl, (blk_cell BK273.out 0).trans rfl, (blk_cell BK273.out 1).trans rfl, (blk_cell BK273.out 2).trans rfl, (blk_cell BK274.out 0).trans rfl, (blk_cell BK274.out 1).trans rfl, (blk_cell BK274.out 2).trans rfl, ((HB.out.cell (World.block_lt_of_cell? w _ hw295_0)).trans hw295_0), ((HB.out.cell (World.block_lt_of_cell? w _ hw296_0)).trans hw296_0)⟩ (fun hHeld => ?_)
            clear hK K
            refine no 64 ?_
            refine pu 15 65 #[true, true, true, true, true, true, true, true, true, true, true, true, true, true, true, true, false] HT_ rfl rfl ?_
            refine last_ (i := 16) (N := none) #[true, true, true, true, true, true, true, true, true, true, true, true, true, true, true, true, true] rfl rfl (one_of HT_.out (by kernel_rfl)) (by decide) (fun K hK => ?_)
            refine skip_ (w1 := ?_) (by rfl) rfl ?_ ?_
            rotate_left
            ·go_simp
             rfl
            refine hK.out _ _ ?_
            clear hK K
            refine done_ (done_of HT_.out (by kernel_rfl)) ?_
            have n0_ : Aside0 (Kd.R (Kd.int .i64) 3 (w52.setCell ⟨go44, (x9_2 : Int).toNat, none⟩ (.int .i64 t297)) w.heap.size (fun k_ => some k_ ≠ (.slice (some ⟨go44, 0, none⟩) x284002_2.length co44 : Value).ownBlock) u284001 x284001_2) := ⟨by exact Kd.R_mono (Kd.R_far (p := ⟨go44, (x9_2 : Int).toNat, none⟩) (Kd.R_mono HO_284001.out (fun k_ hk => (⟨hk, fun e_ => hk (by rw [e_]; rfl)⟩ : _ ∧ k_ ≠ go44))) (fun _ hk => hk.2) (.int .i64 t297)) (fun _ hk => hk.1)⟩
            have n1_ : Aside0 (Kd.R (Kd.int .i64) 3 (w52.setCell ⟨go44, (x9_2 : Int).toNat, none⟩ (.int .i64 t297)) w.heap.size (fun k_ => some k_ ≠ (u284001 : Value).ownBlock) (.slice (some ⟨go44, 0, none⟩) x284002_2.length co44) y298) := ⟨HQ53.out⟩
            have n2_ : Aside0 ((w52.setCell ⟨go44, (x9_2 : Int).toNat, none⟩ (.int .i64 t297)).heap[gb273]? = some (.cells #[.bool a1_0, .slice A1_1 l1_1.length c1_1, .slice (some ad295) l1_2.length c1_2] 26 (0, 0))) := ⟨by (with_reducible repeat (first | refine blk_drewN ?_ _ | refine blk_drew ?_ | refine blk_alloc ?_ _)); refine blk_far ?_ (by have h_ := Kd.R_ne HO_284002.out BK273.out (by decide); intro e_; exact h_ (by rw [e_]; rfl)) _; (with_reducible repeat (first | refine blk_drewN ?_ _ | refine blk_drew ?_ | refine blk_alloc ?_ _)); exact BK273.out⟩
            have n3_ : Aside0 ((w52.setCell ⟨go44, (x9_2 : Int).toNat, none⟩ (.int .i64 t297)).heap[gb274]? = some (.cells #[.bool a2_0, .slice A2_1 l2_1.length c2_1, .slice (some ad296) l2_2.length c2_2] 26 (0, 0))) := ⟨by (with_reducible repeat (first | refine blk_drewN ?_ _ | refine blk_drew ?_ | refine blk_alloc ?_ _)); refine blk_far ?_ (by have h_ := Kd.R_ne HO_284002.out BK274.out (by decide); intro e_; exact h_ (by rw [e_]; rfl)) _; (with_reducible repeat (first | refine blk_drewN ?_ _ | refine blk_drew ?_ | refine blk_alloc ?_ _)); exact BK274.out⟩
            have n4_ : Aside0 ((w52.setCell ⟨go44, (x9_2 : Int).toNat, none⟩ (.int .i64 t297)).heap[gb275]? = some (.cells #[.bool x276000_2, .slice none 0 0, .slice none 0 0] 26 (0, 0))) := ⟨by (with_reducible repeat (first | refine blk_drewN ?_ _ | refine blk_drew ?_ | refine blk_alloc ?_ _)); refine blk_far ?_ (by have h_ := Kd.R_ne HO_284002.out BK275.out (by decide); intro e_; exact h_ (by rw [e_]; rfl)) _; (with_reducible repeat (first | refine blk_drewN ?_ _ | refine blk_drew ?_ | refine blk_alloc ?_ _)); exact BK275.out⟩
            have n5_ : Aside0 ((w52.setCell ⟨go44, (x9_2 : Int).toNat, none⟩ (.int .i64 t297)).heap[gb283]? = some (.cells #[.bool t276, u284001, .slice (some ⟨go44, 0, none⟩) x284002_2.length co44] 26 (0, 0))) := ⟨by (with_reducible repeat (first | refine blk_drewN ?_ _ | refine blk_drew ?_ | refine blk_alloc ?_ _)); refine blk_far ?_ (by have h_ := Kd.R_ne HO_284002.out BK283.out (by decide); intro e_; exact h_ (by rw [e_]; rfl)) _; (with_reducible repeat (first | refine blk_drewN ?_ _ | refine blk_drew ?_ | refine blk_alloc ?_ _)); exact BK283.out⟩
            have n6_ : Aside0 (Below w.heap.size w (w52.setCell ⟨go44, (x9_2 : Int).toNat, none⟩ (.int .i64 t297))) := ⟨bl⟩
            (try clear HO_284001)
            (try clear HO_284002)
            (try clear BK273)
            (try clear BK274)
            (try clear BK275)
            (try clear BK283)
            (try clear HB)
            generalize (w52.setCell ⟨go44, (x9_2 : Int).toNat, none⟩ (.int .i64 t297)) = w54 at n0_ n1_ n2_ n3_ n4_ n5_ n6_ ⊢
            have HO_284001 := n0_
            have HO_284002 := n1_
            have BK273 := n2_
            have BK274 := n3_
            have BK275 := n4_
            have BK283 := n5_
            have HB := n6_
            clear n0_ n1_ n2_ n3_ n4_ n5_ n6_
            have hnb55 := NB283_274.out
            have hnc55 := NB274_283.out
            have hnb56 := NB283_275.out
            have hnc56 := NB275_283.out
            obtain ⟨_,_,_,_,_,_⟩ := cf3 BK283
            have p45 : 0 ≤ (x9_2 : Int) := od
            have q45 : (x9_2 : Int) < ((x284002_2.length : Int) : Int) := od
            have hr45_ : rdOf 0 y298 (x9_2 : Int) = t297 := by rw [Ny298.out]; unfold rdOf; rw [List.getD_eq_getElem?_getD, List.getElem?_set_self (by omega)]; rfl
            obtain ⟨hx45_0, hf45_0⟩ := Kd.R_celln 0 HO_284002.out (x9_2 : Int) p45 q45
            rw [hr45_] at hx45_0
            replace p45 := eq_true p45
            replace q45 := eq_true q45
            try go_wp2_with (first | ((with_reducible refine gc 21 rfl ?_); refine gl (some 72) Try.func21 #[] rfl ?_; (with_reducible refine (spec_l11None.calls  t300 t301 t304 _ A47.out).mono ?_); rintro e w58 ⟨v302, v305, rfl, ho0, ho1, hb⟩; refine ⟨_, rfl, ?_⟩; have HO303 := Aside0.mk (Kd.R_lower (Kd.R_new' (Kd.R_new' ho0 (Kd.R_lt HO_284001.out)) (Kd.R_lt HO_284002.out)) (below_size bl)); have HO306 := Aside0.mk (Kd.R_lower (Kd.R_new' (Kd.R_new' ho1 (Kd.R_lt HO_284001.out)) (Kd.R_lt HO_284002.out)) (below_size bl)); replace HO_284001 := Aside0.mk (Kd.R_mono (Kd.R_told (Kd.R_told (Kd.R_old HO_284001.out hb) (Kd.R_base ho0)) (Kd.R_base ho1)) (fun _ h_ => h_.1)); replace HO_284002 := Aside0.mk (Kd.R_mono (Kd.R_told (Kd.R_told (Kd.R_old HO_284002.out hb) (Kd.R_base ho0)) (Kd.R_base ho1)) (fun _ h_ => h_.1)); replace BK273 := kb BK273 hb; replace BK274 := kb BK274 hb; replace BK275 := kb BK275 hb; replace BK283 := kb BK283 hb; replace HB := hs HB hb; have hnb59 := NB275_274.out; have hnc59 := NB274_275.out; obtain ⟨_,_,_,_,_,_⟩ := cf3 BK275; obtain ⟨Ao61, co61, eo61⟩ := Kd.R_slice HO303.out; subst eo61; obtain ⟨Ao62, co62, eo62⟩ := Kd.R_slice HO306.out; subst eo62))
            refine bodyPost_ret (results_cell_row rfl _ _ gb275 26 #[.bool t300, .slice Ao61 t301.length co61, .slice Ao62 t304.length co62] (0, 0) _ rfl (by (with_reducible repeat (first | refine blk_drewN ?_ _ | refine blk_drew ?_ | refine blk_alloc ?_ _)); refine blk_put (cs := #[.bool t300, .slice Ao61 t301.length co61, .slice none 0 0]) ?_ 2 _ rfl; (with_reducible repeat (first | refine blk_drewN ?_ _ | refine blk_drew ?_ | refine blk_alloc ?_ _)); refine blk_put (cs := #[.bool t300, .slice none 0 0, .slice none 0 0]) ?_ 1 _ rfl; (with_reducible repeat (first | refine blk_drewN ?_ _ | refine blk_drew ?_ | refine blk_alloc ?_ _)); refine blk_put (cs := #[.bool x276000_2, .slice none 0 0, .slice none 0 0]) ?_ 0 _ rfl; (with_reducible repeat (first | refine blk_drewN ?_ _ | refine blk_drew ?_ | refine blk_alloc ?_ _)); exact BK275.out) Try.underlying26 rfl (by kernel_rfl)) rfl ?_
            exact ⟨_, _, by first | rfl | (simp [errW_none, errW_some] <;> rfl) | (simp [*, errW_none, errW_some] <;> rfl), by exact Kd.R_mono (Kd.R_far (p := ⟨gb275, 2, none⟩) (Kd.R_far (p := ⟨gb275, 1, none⟩) (Kd.R_far (p := ⟨gb275, 0, none⟩) (Kd.R_types HO303.out BK275.out (by decide)) (fun _ hk => hk.2) (.bool t300)) (fun _ hk => hk.2) (.slice Ao61 t301.length co61)) (fun _ hk => hk.2) (.slice Ao62 t304.length co62)) (fun _ hk => hk.1.1.1), by exact Kd.R_mono (Kd.R_far (p := ⟨gb275, 2, none⟩) (Kd.R_far (p := ⟨gb275, 1, none⟩) (Kd.R_far (p := ⟨gb275, 0, none⟩) (Kd.R_types HO306.out BK275.out (by decide)) (fun _ hk => hk.2) (.bool t300)) (fun _ hk => hk.2) (.slice Ao61 t301.length co61)) (fun _ hk => hk.2) (.slice Ao62 t304.length co62)) (fun _ hk => hk.1.1.1), bl⟩
           ·rw [if_neg c46] at H
            have c46b0 := beq_eq_false_iff_ne.mpr c46
            have c46b1 := bne_iff_ne.mpr c46
            have H' := Aside0.mk H
            clear H
            have hnb63 := NB273_274.out
            have hnc63 := NB274_273.out
            have hnb64 := NB273_275.out
            have hnc64 := NB275_273.out
            have hnb65 := NB273_283.out
            have hnc65 := NB283_273.out
            obtain ⟨_,_,_,_,_,_⟩ := cf3 BK273
            try go_wp2
            replace HO_284001 := Aside0.mk (Kd.R_drew HO_284001.out)
            replace HO_284002 := Aside0.mk (Kd.R_drew HO_284002.out)
            replace BK273 := Aside0.mk (blk_drew BK273.out)
            replace BK274 := Aside0.mk (blk_drew BK274.out)
            replace BK275 := Aside0.mk (blk_drew BK275.out)
            replace BK283 := Aside0.mk (blk_drew BK283.out)
            replace HB := Aside0.mk (below_drew1 HB.out)
            have p295 : 0 ≤ (x9_2 : Int) := od
            have q295 : x9_2 < (l1_2.length : Int) := od
            obtain ⟨ad295, e295, hx295_0⟩ := Kd.at_int HR1_2.out x9_2 p295 q295
            have hw295_0 := hx295_0
            cases e295
            replace hx295_0 := hc HB hx295_0
            replace p295 := eq_true p295
            replace q295 := eq_true q295
            have p296 : 0 ≤ (x9_2 : Int) := od
            have q296 : x9_2 < (l2_2.length : Int) := od
            obtain ⟨ad296, e296, hx296_0⟩ := Kd.at_int HR2_2.out x9_2 p296 q296
            have hw296_0 := hx296_0
            cases e296
            replace hx296_0 := hc HB hx296_0
            replace p296 := eq_true p296
            replace q296 := eq_true q296
            refine start_ (n := 17) (S := fun w' => w'.cell? ⟨gb283, 0, none⟩ = some (.bool t276) ∧ w'.cell? ⟨gb283, 1, none⟩ = some (u284001) ∧ w'.cell? ⟨gb283, 2, none⟩ = some (u284002) ∧ w'.cell? ⟨gb273, 0, none⟩ = some (.bool a1_0) ∧ w'.cell? ⟨gb273, 1, none⟩ = some (.slice A1_1 l1_1.length c1_1) ∧ w'.cell? ⟨gb273, 2, none⟩ = some (.slice (some ad295) l1_2.length c1_2) ∧ w'.cell? ⟨gb274, 0, none⟩ = some (.bool a2_0) ∧ w'.cell? ⟨gb274, 1, none⟩ = some (.slice A2_1 l2_1.length c2_1) ∧ w'.cell? ⟨gb274, 2, none⟩ = some (.slice (some ad296) l2_2.length c2_2) ∧ w'.cell? (ad295.add (x9_2).toNat) = some (.int .i64 (rd l1_2 x9_2)) ∧ w'.cell? (ad296.add (x9_2).toNat) = some (.int .i64 (rd l2_2 x9_2))) (ds := [16]) #[false, false, false, false, false, false, false, false, false, false, false, false, false, false, false, false, false] (by kernel_rfl) rfl rfl ⟨(blk_cell BK283.out 0).trans rfl, (blk_cell BK283.out 1).trans rfl, (blk_cell BK283.out 2).trans rfl, (blk_cell BK273.out 0).trans rfl, (blk_cell BK273.out 1).trans rfl, (blk_cell BK273.out 2).trans rfl, (blk_cell BK274.out 0).trans rfl, (blk_cell BK274.out 1).trans rfl, (blk_cell BK274.out 2).trans rfl, ((HB.out.cell (World.block_lt_of_cell? w _ hw295_0)).trans hw295_0), ((HB.out.cell (World.block_lt_of_cell? w _ hw296_0)).trans hw296_0)⟩ (fun hHeld => ?_); refine with_tabW spec_l11Join.tab11 spec_l11Join.bits11 (fun HT_ HW_ => ?_)
            generalize wr.drew = w67 at HO_284001 HO_284002 BK273 BK274 BK275 BK283 HB hx295_0 hx296_0 hHeld ⊢
            refine pu 0 50 #[true, false, false, false, false, false, false, false, false, false, false, false, false, false, false, false, false] HT_ rfl rfl ?_
            refine pu 2 52 #[true, false, true, false, false, false, false, false, false, false, false, false, false, false, false, false, false] HT_ rfl rfl ?_
            refine pu 3 53 #[true, false, true, true, false, false, false, false, false, false, false, false, false, false, false, false, false] HT_ rfl rfl ?_
            refine pu 4 54 #[true, false, true, true, true, false, false, false, false, false, false, false, false, false, false, false, false] HT_ rfl rfl ?_
            refine pu 6 56 #[true, false, true, true, true, false, true, false, false, false, false, false, false, false, false, false, false] HT_ rfl rfl ?_
            refine pu 9 59 #[true, false, true, true, true, false, true, false, false, true, false, false, false, false, false, false, false] HT_ rfl rfl ?_
            refine pu 11 61 #[true, false, true, true, true, false, true, false, false, true, false, true, false, false, false, false, false] HT_ rfl rfl ?_
            refine ta 1 51 #[true, true, true, true, true, false, true, false, false, true, false, true, false, false, false, false, false] HT_ HW_ hHeld rfl rfl ?_
            refine ta 5 55 #[true, true, true, true, true, true, true, false, false, true, false, true, false, false, false, false, false] HT_ HW_ hHeld rfl rfl ?_
            refine pu 7 57 #[true, true, true, true, true, true, true, true, false, true, false, true, false, false, false, false, false] HT_ rfl rfl ?_
            refine ta 8 58 #[true, true, true, true, true, true, true, true, true, true, false, true, false, false, false, false, false] HT_ HW_ hHeld rfl rfl ?_
            refine ta 10 60 #[true, true, true, true, true, true, true, true, true, true, true, true, false, false, false, false, false] HT_ HW_ hHeld rfl rfl ?_
            refine pu 12 62 #[true, true, true, true, true, true, true, true, true, true, true, true, true, false, false, false, false] HT_ rfl rfl ?_
            refine ta 13 63 #[true, true, true, true, true, true, true, true, true, true, true, true, true, true, false, false, false] HT_ HW_ hHeld rfl rfl ?_
            refine one_ (i := 14) (N := some 64) #[true, true, true, true, true, true, true, true, true, true, true, true, true, true, true, false, false] rfl rfl (one_of HT_.out (by kernel_rfl)) (by decide) (fun K hK => ?_)
            refine gs Try.func22 #[.slice A0 l0.length c0, .int .i64 (rd l1_2 x9_2), .int .i64 (rd l2_2 x9_2)] rfl rfl ?_
            with_reducible refine (spec_l2Meets.calls k2 _ _ l0 (rd l1_2 x9_2) (rd l2_2 x9_2) t297 _ ?side1 ?side2 A42.out).mono ?_
            (case side1 => exact cb HR0.out)
            (case side2 => exact HC0.out)
            rintro e w' ⟨rfl, ⟨nd, rfl⟩⟩
            refine ⟨_, rfl, ?_⟩
            replace HO_284001 := Aside0.mk (Kd.R_drewN HO_284001.out nd)
            replace HO_284002 := Aside0.mk (Kd.R_drewN HO_284002.out nd)
            replace BK273 := Aside0.mk (blk_drewN BK273.out nd)
            replace BK274 := Aside0.mk (blk_drewN BK274.out nd)
            replace BK275 := Aside0.mk (blk_drewN BK275.out nd)
            replace BK283 := Aside0.mk (blk_drewN BK283.out nd)
            replace HB := Aside0.mk (pw_below_drewN HB.out nd)
            generalize w67.drewN nd = w67 at HO_284001 HO_284002 BK273 BK274 BK275 BK283 HB ⊢
            have p44 : 0 ≤ (x9_2 : Int) := od
            have q44 : (x9_2 : Int) < ((x284002_2.length : Int) : Int) := od
            obtain ⟨go44, co44, eo44, gb44, gl44, cl44, HG44⟩ := Kd.R_form HO_284002.out (by omega)
            (first | cases eo44 | (injection eo44 with ea_ en_ ec_; (first | subst ea_ | (injection ea_ with ea_; subst ea_)); subst ec_; clear en_))
            have GB44 := Aside0.mk gb44
            have GG44 := Aside0.mk HG44
            clear gb44 gl44 HG44
            obtain ⟨hx44_0, hf44_0⟩ := Kd.R_celln 0 HO_284002.out (x9_2 : Int) p44 q44
            replace p44 := eq_true p44
            replace q44 := eq_true q44
            have HP68 := Kd.R_putn HO_284002.out (x9_2 : Int) t297
            rw [← Ny298.out] at HP68
            have HQ68 := Aside0.mk HP68
            clear HP68
            refine hK.out _ _ ⟨(blk_cell BK283.out 0).trans rfl, (blk_cell BK283.out 1).trans rfl, (blk_cell BK283.out 2).trans rfl, (blk_cell BK273.out 0).trans rfl, (blk_cell BK273.out 1).trans rfl, (blk_cell BK273.out 2).trans rfl, (blk_cell BK274.out 0).trans rfl, (blk_cell BK274.out 1).trans rfl, (blk_cell BK274.out 2).trans rfl, ((HB.out.cell (World.block_lt_of_cell? w _ hw295_0)).trans hw295_0), ((HB.out.cell (World.block_lt_of_cell? w _ hw296_0)).trans hw296_0)⟩ (fun hHeld => ?_)
            clear hK K
            refine no 64 ?_
            refine pu 15 65 #[true, true, true, true, true, true, true, true, true, true, true, true, true, true, true, true, false] HT_ rfl rfl ?_
            refine last_ (i := 16) (N := none) #[true, true, true, true, true, true, true, true, true, true, true, true, true, true, true, true, true] rfl rfl (one_of HT_.out (by kernel_rfl)) (by decide) (fun K hK => ?_)
            refine skip_ (w1 := ?_) (by rfl) rfl ?_ ?_
            rotate_left
            ·go_simp
             rfl
            refine hK.out _ _ ?_
            clear hK K
            refine done_ (done_of HT_.out (by kernel_rfl)) ?_
            have n0_ : Aside0 (Kd.R (Kd.int .i64) 3 (w67.setCell ⟨go44, (x9_2 : Int).toNat, none⟩ (.int .i64 t297)) w.heap.size (fun k_ => some k_ ≠ (.slice (some ⟨go44, 0, none⟩) x284002_2.length co44 : Value).ownBlock) u284001 x284001_2) := ⟨by exact Kd.R_mono (Kd.R_far (p := ⟨go44, (x9_2 : Int).toNat, none⟩) (Kd.R_mono HO_284001.out (fun k_ hk => (⟨hk, fun e_ => hk (by rw [e_]; rfl)⟩ : _ ∧ k_ ≠ go44))) (fun _ hk => hk.2) (.int .i64 t297)) (fun _ hk => hk.1)⟩
            have n1_ : Aside0 (Kd.R (Kd.int .i64) 3 (w67.setCell ⟨go44, (x9_2 : Int).toNat, none⟩ (.int .i64 t297)) w.heap.size (fun k_ => some k_ ≠ (u284001 : Value).ownBlock) (.slice (some ⟨go44, 0, none⟩) x284002_2.length co44) y298) := ⟨HQ68.out⟩
            have n2_ : Aside0 ((w67.setCell ⟨go44, (x9_2 : Int).toNat, none⟩ (.int .i64 t297)).heap[gb273]? = some (.cells #[.bool a1_0, .slice A1_1 l1_1.length c1_1, .slice (some ad295) l1_2.length c1_2] 26 (0, 0))) := ⟨by (with_reducible repeat (first | refine blk_drewN ?_ _ | refine blk_drew ?_ | refine blk_alloc ?_ _)); refine blk_far ?_ (by have h_ := Kd.R_ne HO_284002.out BK273.out (by decide); intro e_; exact h_ (by rw [e_]; rfl)) _; (with_reducible repeat (first | refine blk_drewN ?_ _ | refine blk_drew ?_ | refine blk_alloc ?_ _)); exact BK273.out⟩
            have n3_ : Aside0 ((w67.setCell ⟨go44, (x9_2 : Int).toNat, none⟩ (.int .i64 t297)).heap[gb274]? = some (.cells #[.bool a2_0, .slice A2_1 l2_1.length c2_1, .slice (some ad296) l2_2.length c2_2] 26 (0, 0))) := ⟨by (with_reducible repeat (first | refine blk_drewN ?_ _ | refine blk_drew ?_ | refine blk_alloc ?_ _)); refine blk_far ?_ (by have h_ := Kd.R_ne HO_284002.out BK274.out (by decide); intro e_; exact h_ (by rw [e_]; rfl)) _; (with_reducible repeat (first | refine blk_drewN ?_ _ | refine blk_drew ?_ | refine blk_alloc ?_ _)); exact BK274.out⟩
            have n4_ : Aside0 ((w67.setCell ⟨go44, (x9_2 : Int).toNat, none⟩ (.int .i64 t297)).heap[gb275]? = some (.cells #[.bool x276000_2, .slice none 0 0, .slice none 0 0] 26 (0, 0))) := ⟨by (with_reducible repeat (first | refine blk_drewN ?_ _ | refine blk_drew ?_ | refine blk_alloc ?_ _)); refine blk_far ?_ (by have h_ := Kd.R_ne HO_284002.out BK275.out (by decide); intro e_; exact h_ (by rw [e_]; rfl)) _; (with_reducible repeat (first | refine blk_drewN ?_ _ | refine blk_drew ?_ | refine blk_alloc ?_ _)); exact BK275.out⟩
            have n5_ : Aside0 ((w67.setCell ⟨go44, (x9_2 : Int).toNat, none⟩ (.int .i64 t297)).heap[gb283]? = some (.cells #[.bool t276, u284001, .slice (some ⟨go44, 0, none⟩) x284002_2.length co44] 26 (0, 0))) := ⟨by (with_reducible repeat (first | refine blk_drewN ?_ _ | refine blk_drew ?_ | refine blk_alloc ?_ _)); refine blk_far ?_ (by have h_ := Kd.R_ne HO_284002.out BK283.out (by decide); intro e_; exact h_ (by rw [e_]; rfl)) _; (with_reducible repeat (first | refine blk_drewN ?_ _ | refine blk_drew ?_ | refine blk_alloc ?_ _)); exact BK283.out⟩
            have n6_ : Aside0 (Below w.heap.size w (w67.setCell ⟨go44, (x9_2 : Int).toNat, none⟩ (.int .i64 t297))) := ⟨bl⟩
            (try clear HO_284001)
            (try clear HO_284002)
            (try clear BK273)
            (try clear BK274)
            (try clear BK275)
            (try clear BK283)
            (try clear HB)
            generalize (w67.setCell ⟨go44, (x9_2 : Int).toNat, none⟩ (.int .i64 t297)) = w54 at n0_ n1_ n2_ n3_ n4_ n5_ n6_ ⊢
            have HO_284001 := n0_
            have HO_284002 := n1_
            have BK273 := n2_
            have BK274 := n3_
            have BK275 := n4_
            have BK283 := n5_
            have HB := n6_
            clear n0_ n1_ n2_ n3_ n4_ n5_ n6_
            have hnb69 := NB283_274.out
            have hnc69 := NB274_283.out
            have hnb70 := NB283_275.out
            have hnc70 := NB275_283.out
            obtain ⟨_,_,_,_,_,_⟩ := cf3 BK283
            have p45 : 0 ≤ (x9_2 : Int) := od
            have q45 : (x9_2 : Int) < ((x284002_2.length : Int) : Int) := od
            have hr45_ : rdOf 0 y298 (x9_2 : Int) = t297 := by rw [Ny298.out]; unfold rdOf; rw [List.getD_eq_getElem?_getD, List.getElem?_set_self (by omega)]; rfl
            obtain ⟨hx45_0, hf45_0⟩ := Kd.R_celln 0 HO_284002.out (x9_2 : Int) p45 q45
            rw [hr45_] at hx45_0
            replace p45 := eq_true p45
            replace q45 := eq_true q45
            try go_wp2
            go_roundg k2
            case measure => have := HK1.out; have := HK2.out; omega
            case rel => exact ⟨(wrap64 (x9_2 + 1)), (x276000_2), (x284001_2), (y298), (u284001), (.slice (some ⟨go44, 0, none⟩) x284002_2.length co44), (by first | rfl | (simp; done) | (simp [*]; done)), H', ⟨by have := HK1.out; have := HK2.out; omega⟩, ⟨HO_284001.out⟩, ⟨HO_284002.out⟩, kk BK273, kk BK274, kk BK275, kk BK283, ⟨bl⟩⟩
          ·rw [if_neg c43] at H
           exact absurd H (by simp)
         ·rw [if_neg c41] at H
          exact absurd H (by simp)
        ·rw [if_neg c40] at H
         exact absurd H (by simp)
       ·rw [if_neg c39] at H
        have c39b0 : decide (x9_2 < (l1_2.length : Int)) = false := decide_eq_false c39
        clear c39
        simp only [Option.some.injEq, Prod.mk.injEq] at H
        obtain ⟨rfl, rfl, rfl⟩ := H
        have hnb72 := NB273_274.out
        have hnc72 := NB274_273.out
        have hnb73 := NB273_275.out
        have hnc73 := NB275_273.out
        have hnb74 := NB273_283.out
        have hnc74 := NB283_273.out
        obtain ⟨_,_,_,_,_,_⟩ := cf3 BK273
        have hnb76 := NB283_274.out
        have hnc76 := NB274_283.out
        have hnb77 := NB283_275.out
        have hnc77 := NB275_283.out
        obtain ⟨_,_,_,_,_,_⟩ := cf3 BK283
        have hnb79 := NB275_274.out
        have hnc79 := NB274_275.out
        obtain ⟨_,_,_,_,_,_⟩ := cf3 BK275
        obtain ⟨Ao81, co81, eo81⟩ := Kd.R_slice HO_284001.out
        subst eo81
        obtain ⟨Ao82, co82, eo82⟩ := Kd.R_slice HO_284002.out
        subst eo82
        go_wp2
        refine bodyPost_ret (results_cell_row rfl _ _ gb275 26 #[.bool t276, .slice Ao81 x284001_2.length co81, .slice Ao82 x284002_2.length co82] (0, 0) _ rfl (by (with_reducible repeat (first | refine blk_drewN ?_ _ | refine blk_drew ?_ | refine blk_alloc ?_ _)); refine blk_put (cs := #[.bool t276, .slice Ao81 x284001_2.length co81, .slice none 0 0]) ?_ 2 _ rfl; (with_reducible repeat (first | refine blk_drewN ?_ _ | refine blk_drew ?_ | refine blk_alloc ?_ _)); refine blk_put (cs := #[.bool t276, .slice none 0 0, .slice none 0 0]) ?_ 1 _ rfl; (with_reducible repeat (first | refine blk_drewN ?_ _ | refine blk_drew ?_ | refine blk_alloc ?_ _)); refine blk_put (cs := #[.bool x276000_2, .slice none 0 0, .slice none 0 0]) ?_ 0 _ rfl; (with_reducible repeat (first | refine blk_drewN ?_ _ | refine blk_drew ?_ | refine blk_alloc ?_ _)); exact BK275.out) Try.underlying26 rfl (by kernel_rfl)) rfl ?_
        exact ⟨_, _, by first | rfl | (simp [errW_none, errW_some] <;> rfl) | (simp [*, errW_none, errW_some] <;> rfl), by exact Kd.R_mono (Kd.R_far (p := ⟨gb275, 2, none⟩) (Kd.R_far (p := ⟨gb275, 1, none⟩) (Kd.R_far (p := ⟨gb275, 0, none⟩) (Kd.R_types HO_284001.out BK275.out (by decide)) (fun _ hk => hk.2) (.bool t276)) (fun _ hk => hk.2) (.slice Ao81 x284001_2.length co81)) (fun _ hk => hk.2) (.slice Ao82 x284002_2.length co82)) (fun _ hk => hk.1), by exact Kd.R_mono (Kd.R_far (p := ⟨gb275, 2, none⟩) (Kd.R_far (p := ⟨gb275, 1, none⟩) (Kd.R_far (p := ⟨gb275, 0, none⟩) (Kd.R_types HO_284002.out BK275.out (by decide)) (fun _ hk => hk.2) (.bool t276)) (fun _ hk => hk.2) (.slice Ao81 x284001_2.length co81)) (fun _ hk => hk.2) (.slice Ao82 x284002_2.length co82)) (fun _ hk => hk.1), bl⟩
 ·rw [if_neg c5] at H
  have c5b0 := beq_eq_false_iff_ne.mpr c5
  have c5b1 := bne_iff_ne.mpr c5
  have c5b2 : (l1_2.length == l2_2.length) = false := by first | simpa using c5 | (simp at c5 ⊢; omega)
  replace H := Option.bind_eq_some_iff.mp H
  obtain ⟨⟨t284, t285, t288⟩, A830, H⟩ := H
  replace H : (some (t284, t285, t288)) = some (r1, r2, r3) := H
  have A83 := Aside0.mk A830
  clear A830
  simp only [Option.some.injEq, Prod.mk.injEq] at H
  obtain ⟨rfl, rfl, rfl⟩ := H
  go_enter Try.func12, Try.ntmps12
  go_wp2_with (first | ((with_reducible refine gd 4 rfl ?_); refine bx 4 #[.bool a1_0, .slice A1_1 l1_1.length c1_1, .slice A1_2 l1_2.length c1_2] 26 ?_; intro gb273 hg w84 hbox hb; have BK273 := Aside0.mk hbox; have GW273 := hz HB hg; have GE273 := hz HB hg; replace HB := hs HB hb; clear hb hbox hg) | ((with_reducible refine gd 5 rfl ?_); refine bx 5 #[.bool a2_0, .slice A2_1 l2_1.length c2_1, .slice A2_2 l2_2.length c2_2] 26 ?_; intro gb274 hg w85 hbox hb; have BK274 := Aside0.mk hbox; have GW274 := hz HB hg; have GE274 := hz HB hg; have NB273_274 := nl BK273 hg; have NB274_273 := ng BK273 hg; replace BK273 := kb BK273 hb; replace HB := hs HB hb; clear hb hbox hg) | ((with_reducible refine gd 6 rfl ?_); refine bx 6 #[.bool false, .slice none 0 0, .slice none 0 0] 26 ?_; intro gb275 hg w86 hbox hb; have BK275 := Aside0.mk hbox; have GW275 := hz HB hg; have GE275 := hz HB hg; have NB273_275 := nl BK273 hg; have NB275_273 := ng BK273 hg; have NB274_275 := nl BK274 hg; have NB275_274 := ng BK274 hg; replace BK273 := kb BK273 hb; replace BK274 := kb BK274 hb; replace HB := hs HB hb; clear hb hbox hg; have hnb87 := NB273_274.out; have hnc87 := NB274_273.out; have hnb88 := NB273_275.out; have hnc88 := NB275_273.out; obtain ⟨_,_,_,_,_,_⟩ := cf3 BK273) | ((with_reducible refine gc 20 rfl ?_); refine gl (some 11) Try.func20 #[.agg #[.bool a1_0, .slice A1_1 l1_1.length c1_1, .slice A1_2 l1_2.length c1_2]] rfl ?_; (with_reducible refine (spec_l11Copy.calls a1_0 _ _ l1_1 _ _ l1_2 t276 t277 t280 _ ?side1 ?side2 ?side3 ?side4 A4.out).mono ?_); (case side1 => exact cb HR1_1.out); (case side2 => exact HC1_1.out); (case side3 => exact cb HR1_2.out); (case side4 => exact HC1_2.out); rintro e w90 ⟨v278, v281, rfl, ho0, ho1, hb⟩; refine ⟨_, rfl, ?_⟩; have HO279 := Aside0.mk (Kd.R_lower ho0 (below_size bl)); have HO282 := Aside0.mk (Kd.R_lower ho1 (below_size bl)); replace BK273 := kb BK273 hb; replace BK274 := kb BK274 hb; replace BK275 := kb BK275 hb; replace HB := hs HB hb) | ((with_reducible refine gd 7 rfl ?_); refine bx 7 #[.bool false, .slice none 0 0, .slice none 0 0] 26 ?_; intro gb283 hg w91 hbox hb; have BK283 := Aside0.mk hbox; have GW283 := hz HB hg; have GE283 := hz HB hg; have NB273_283 := nl BK273 hg; have NB283_273 := ng BK273 hg; have NB274_283 := nl BK274 hg; have NB283_274 := ng BK274 hg; have NB275_283 := nl BK275 hg; have NB283_275 := ng BK275 hg; replace HO279 := Aside0.mk (Kd.R_below HO279.out hb); replace HO282 := Aside0.mk (Kd.R_below HO282.out hb); replace BK273 := kb BK273 hb; replace BK274 := kb BK274 hb; replace BK275 := kb BK275 hb; replace HB := hs HB hb; clear hb hbox hg; have hnb92 := NB283_273.out; have hnc92 := NB273_283.out; have hnb93 := NB283_274.out; have hnc93 := NB274_283.out; have hnb94 := NB283_275.out; have hnc94 := NB275_283.out; obtain ⟨_,_,_,_,_,_⟩ := cf3 BK283; obtain ⟨Ao96, co96, eo96⟩ := Kd.R_slice HO279.out; subst eo96; obtain ⟨Ao97, co97, eo97⟩ := Kd.R_slice HO282.out; subst eo97; obtain ⟨_,_,_,_,_,_⟩ := cf3 BK273; have hnb99 := NB274_275.out; have hnc99 := NB275_274.out; obtain ⟨_,_,_,_,_,_⟩ := cf3 BK274) | ((with_reducible refine gc 21 rfl ?_); refine gl (some 19) Try.func21 #[] rfl ?_; (with_reducible refine (spec_l11None.calls  t284 t285 t288 _ A83.out).mono ?_); rintro e w101 ⟨v286, v289, rfl, ho0, ho1, hb⟩; refine ⟨_, rfl, ?_⟩; have HO287 := Aside0.mk (Kd.R_lower (Kd.R_new' (Kd.R_new' ho0 (Kd.R_lt ((Kd.R_mono (Kd.R_far (p := ⟨gb283, 2, none⟩) (Kd.R_far (p := ⟨gb283, 1, none⟩) (Kd.R_far (p := ⟨gb283, 0, none⟩) (Kd.R_types HO279.out BK283.out (by decide)) (fun _ hk => hk.2) (.bool t276)) (fun _ hk => hk.2) (.slice Ao96 t277.length co96)) (fun _ hk => hk.2) (.slice Ao97 t280.length co97)) (fun _ h_ => h_.1))))) (Kd.R_lt ((Kd.R_mono (Kd.R_far (p := ⟨gb283, 2, none⟩) (Kd.R_far (p := ⟨gb283, 1, none⟩) (Kd.R_far (p := ⟨gb283, 0, none⟩) (Kd.R_types HO282.out BK283.out (by decide)) (fun _ hk => hk.2) (.bool t276)) (fun _ hk => hk.2) (.slice Ao96 t277.length co96)) (fun _ hk => hk.2) (.slice Ao97 t280.length co97)) (fun _ h_ => h_.1))))) (below_size bl)); have HO290 := Aside0.mk (Kd.R_lower (Kd.R_new' (Kd.R_new' ho1 (Kd.R_lt ((Kd.R_mono (Kd.R_far (p := ⟨gb283, 2, none⟩) (Kd.R_far (p := ⟨gb283, 1, none⟩) (Kd.R_far (p := ⟨gb283, 0, none⟩) (Kd.R_types HO279.out BK283.out (by decide)) (fun _ hk => hk.2) (.bool t276)) (fun _ hk => hk.2) (.slice Ao96 t277.length co96)) (fun _ hk => hk.2) (.slice Ao97 t280.length co97)) (fun _ h_ => h_.1))))) (Kd.R_lt ((Kd.R_mono (Kd.R_far (p := ⟨gb283, 2, none⟩) (Kd.R_far (p := ⟨gb283, 1, none⟩) (Kd.R_far (p := ⟨gb283, 0, none⟩) (Kd.R_types HO282.out BK283.out (by decide)) (fun _ hk => hk.2) (.bool t276)) (fun _ hk => hk.2) (.slice Ao96 t277.length co96)) (fun _ hk => hk.2) (.slice Ao97 t280.length co97)) (fun _ h_ => h_.1))))) (below_size bl)); replace HO279 := Aside0.mk (Kd.R_mono (Kd.R_told (Kd.R_told (Kd.R_old ((Kd.R_mono (Kd.R_far (p := ⟨gb283, 2, none⟩) (Kd.R_far (p := ⟨gb283, 1, none⟩) (Kd.R_far (p := ⟨gb283, 0, none⟩) (Kd.R_types HO279.out BK283.out (by decide)) (fun _ hk => hk.2) (.bool t276)) (fun _ hk => hk.2) (.slice Ao96 t277.length co96)) (fun _ hk => hk.2) (.slice Ao97 t280.length co97)) (fun _ h_ => h_.1))) hb) (Kd.R_base ho0)) (Kd.R_base ho1)) (fun _ h_ => h_.1)); replace HO282 := Aside0.mk (Kd.R_mono (Kd.R_told (Kd.R_told (Kd.R_old ((Kd.R_mono (Kd.R_far (p := ⟨gb283, 2, none⟩) (Kd.R_far (p := ⟨gb283, 1, none⟩) (Kd.R_far (p := ⟨gb283, 0, none⟩) (Kd.R_types HO282.out BK283.out (by decide)) (fun _ hk => hk.2) (.bool t276)) (fun _ hk => hk.2) (.slice Ao96 t277.length co96)) (fun _ hk => hk.2) (.slice Ao97 t280.length co97)) (fun _ h_ => h_.1))) hb) (Kd.R_base ho0)) (Kd.R_base ho1)) (fun _ h_ => h_.1)); replace BK273 := kq BK273 hb; replace BK274 := kq BK274 hb; replace BK275 := kq BK275 hb; replace BK283 := kp gb283 #[.bool t276, .slice Ao96 t277.length co96, .slice Ao97 t280.length co97] 26 hb; replace HB := hs HB hb; obtain ⟨_,_,_,_,_,_⟩ := cf3 BK275; obtain ⟨Ao103, co103, eo103⟩ := Kd.R_slice HO287.out; subst eo103; obtain ⟨Ao104, co104, eo104⟩ := Kd.R_slice HO290.out; subst eo104))
  refine bodyPost_ret (results_cell_row rfl _ _ gb275 26 #[.bool t284, .slice Ao103 t285.length co103, .slice Ao104 t288.length co104] (0, 0) _ rfl (by (with_reducible repeat (first | refine blk_drewN ?_ _ | refine blk_drew ?_ | refine blk_alloc ?_ _)); refine blk_put (cs := #[.bool t284, .slice Ao103 t285.length co103, .slice none 0 0]) ?_ 2 _ rfl; (with_reducible repeat (first | refine blk_drewN ?_ _ | refine blk_drew ?_ | refine blk_alloc ?_ _)); refine blk_put (cs := #[.bool t284, .slice none 0 0, .slice none 0 0]) ?_ 1 _ rfl; (with_reducible repeat (first | refine blk_drewN ?_ _ | refine blk_drew ?_ | refine blk_alloc ?_ _)); refine blk_put (cs := #[.bool false, .slice none 0 0, .slice none 0 0]) ?_ 0 _ rfl; (with_reducible repeat (first | refine blk_drewN ?_ _ | refine blk_drew ?_ | refine blk_alloc ?_ _)); exact BK275.out) Try.underlying26 rfl (by kernel_rfl)) rfl ?_
  exact ⟨_, _, by first | rfl | (simp [errW_none, errW_some] <;> rfl) | (simp [*, errW_none, errW_some] <;> rfl), by exact Kd.R_mono (Kd.R_far (p := ⟨gb275, 2, none⟩) (Kd.R_far (p := ⟨gb275, 1, none⟩) (Kd.R_far (p := ⟨gb275, 0, none⟩) (Kd.R_types HO287.out BK275.out (by decide)) (fun _ hk => hk.2) (.bool t284)) (fun _ hk => hk.2) (.slice Ao103 t285.length co103)) (fun _ hk => hk.2) (.slice Ao104 t288.length co104)) (fun _ hk => hk.1.1.1), by exact Kd.R_mono (Kd.R_far (p := ⟨gb275, 2, none⟩) (Kd.R_far (p := ⟨gb275, 1, none⟩) (Kd.R_far (p := ⟨gb275, 0, none⟩) (Kd.R_types HO290.out BK275.out (by decide)) (fun _ hk => hk.2) (.bool t284)) (fun _ hk => hk.2) (.slice Ao103 t285.length co103)) (fun _ hk => hk.2) (.slice Ao104 t288.length co104)) (fun _ hk => hk.1.1.1), bl⟩
end Go.Proofs.Ytchegijjjakmpaa.P

end
section

namespace Go.Proofs.Ytchegijjjakmpaa.P
open Go.RowKit Go.Proofs.YtchegijjjakmpaaW.PrintWords Go.Proofs.YtchegijjjakmpaaW.PrintLast Go.Proofs.YtchegijjjakmpaaW.PrintMore
attribute [local go_sem] max2_int min2_int max_two min_two max_three min_three max_four min_four
set_option linter.unusedVariables false
set_option linter.unusedSimpArgs false
set_option maxHeartbeats 8000000 in
set_option maxRecDepth 100000 in
theorem spec_l6Open.calls (A0 : Option Addr) (c0 : Nat) (l0 : List Int) (r1 : List Int) (r2 : Int) (w0 w : World) (hB : Below w0.heap.size w0 w) (hr0 : Kd.C (Kd.int .u8) w0 A0 l0.length l0) (hc0 : l0.length ≤ c0) (h : spec_l6Open.f l0 = some (r1, r2)) :
  Calls Try.prog 8 #[.slice A0 l0.length c0] w fun e w' => ∃ g_ : Nat, e = .returned (.pointer (some ⟨g_, 0, none⟩)) ∧ IsS40 w0 w' g_ r1 r2 ∧ Below w0.heap.size w0 w' ∧ Below w.heap.size w w' := by
 have hu40 := Try.underlying40
 have HR0 := Aside0.mk hr0
 have HC0 := Aside0.mk hc0
 clear hr0 hc0
 have HBW := Aside0.mk (Below.refl w.heap.size w)
 have HW0 := Aside0.mk hB.size
 have HB := Aside0.mk hB
 clear hB
 have H : (if (l0.length : Int) > 2000 then (if 2000 ≤ (l0.length : Int) then (some (l0.take 2000, 0)) else (none)) else (some (l0, 0))) = some (r1, r2) := h
 clear h
 by_cases c2 : (l0.length : Int) > 2000
 ·rw [if_pos c2] at H
  have c2b0 : decide (2000 < (l0.length : Int)) = true := decide_eq_true c2
  have c2b1 : decide (2000 < l0.length) = true := decide_eq_true (by omega)
  clear c2
  by_cases c3 : 2000 ≤ (l0.length : Int)
  ·rw [if_pos c3] at H
   have c3b0 := eq_true c3
   have c3b1 : decide (2000 ≤ (l0.length : Int)) = true := decide_eq_true c3
   clear c3
   simp only [Option.some.injEq, Prod.mk.injEq] at H
   obtain ⟨rfl, rfl⟩ := H
   obtain ⟨i04, hi04, _, hsz4, _⟩ := info_parts info5
   obtain ⟨hcut4, hA4, hC4⟩ := print_take_of (P := Try.prog) (Value.int .u8) 0 22 5 .i64 Try.underlying22 hi04 hsz4 A0 c0 l0 2000 (by omega) (of_decide_eq_true (by first | (with_reducible assumption) | assumption)) HC0.out
   have HR101 := Aside0.mk (Kd.C_of_reads (h1 := fun _ => rfl) (hA4 _ (Kd.reads_of_C HR0.out)))
   have HC101 := Aside0.mk hC4
   clear hA4 hC4 hi04 hsz4
   go_enter Try.func8, Try.ntmps8
   go_wp2_with (first | ((with_reducible refine gd 10 rfl ?_); refine bx 10 #[.slice A0 (l0.take 2000).length c0, .int .i64 0] 40 ?_; intro gb102 hg w5 hbox hb; have BK102 := Aside0.mk hbox; have GW102 := Aside0.mk ((by rw [hg]; exact (below_size (by repeat (first | (with_reducible first | exact HBW.out | apply below_alloc | apply pw_below_drewN | apply below_drew1) | exact HBW.out))) : w.heap.size ≤ gb102)); have GE102 := Aside0.mk ((Nat.le_trans HW0.out (by rw [hg]; exact (below_size (by repeat (first | (with_reducible first | exact HBW.out | apply below_alloc | apply pw_below_drewN | apply below_drew1) | exact HBW.out))) : w.heap.size ≤ gb102) : w0.heap.size ≤ gb102)); replace HBW := Aside0.mk (below_step HBW.out hb); replace HB := hs HB hb; clear hb hbox hg))
   go_ret
   exact ⟨_, rfl, (show IsS40 w0 _ gb102 (l0.take 2000) 0 from ⟨_, _, by exact BK102.out, GE102.out, HR101.out⟩), bl, by repeat (first | (with_reducible first | exact HBW.out | apply below_alloc | apply pw_below_drewN | apply below_drew1 | refine below_set ?_ GW102.out) | exact HBW.out)⟩
  ·rw [if_neg c3] at H
   exact absurd H (by simp)
 ·rw [if_neg c2] at H
  have c2b0 : decide (2000 < (l0.length : Int)) = false := decide_eq_false c2
  have c2b1 : decide (2000 < l0.length) = false := decide_eq_false (by omega)
  clear c2
  simp only [Option.some.injEq, Prod.mk.injEq] at H
  obtain ⟨rfl, rfl⟩ := H
  go_enter Try.func8, Try.ntmps8
  go_wp2_with (first | ((with_reducible refine gd 10 rfl ?_); refine bx 10 #[.slice A0 l0.length c0, .int .i64 0] 40 ?_; intro gb103 hg w6 hbox hb; have BK103 := Aside0.mk hbox; have GW103 := Aside0.mk ((by rw [hg]; exact (below_size (by repeat (first | (with_reducible first | exact HBW.out | apply below_alloc | apply pw_below_drewN | apply below_drew1) | exact HBW.out))) : w.heap.size ≤ gb103)); have GE103 := Aside0.mk ((Nat.le_trans HW0.out (by rw [hg]; exact (below_size (by repeat (first | (with_reducible first | exact HBW.out | apply below_alloc | apply pw_below_drewN | apply below_drew1) | exact HBW.out))) : w.heap.size ≤ gb103) : w0.heap.size ≤ gb103)); replace HBW := Aside0.mk (below_step HBW.out hb); replace HB := hs HB hb; clear hb hbox hg))
  go_ret
  exact ⟨_, rfl, (show IsS40 w0 _ gb103 l0 0 from ⟨_, _, by exact BK103.out, GE103.out, HR0.out⟩), bl, by repeat (first | (with_reducible first | exact HBW.out | apply below_alloc | apply pw_below_drewN | apply below_drew1 | refine below_set ?_ GW103.out) | exact HBW.out)⟩
end Go.Proofs.Ytchegijjjakmpaa.P

end
section

namespace Go.Proofs.Ytchegijjjakmpaa.P
open Go.RowKit Go.Proofs.YtchegijjjakmpaaW.PrintWords Go.Proofs.YtchegijjjakmpaaW.PrintLast Go.Proofs.YtchegijjjakmpaaW.PrintMore
attribute [local go_sem] max2_int min2_int max_two min_two max_three min_three max_four min_four
set_option linter.unusedVariables false
set_option linter.unusedSimpArgs false
set_option maxHeartbeats 8000000 in
set_option maxRecDepth 100000 in
theorem spec_l71Field.calls (k : Nat) (g : Nat) (s0_0 : List Int) (s0_1 : Int) (a1 : Int) (r1 : Int) (r2 : Int) (w0 w : World) (hI : IsS40 w0 w g s0_0 s0_1) (hB : Below w0.heap.size w0 w) (h : spec_l71Field.f k s0_0 s0_1 a1 = some (r1, r2)) :
  Calls Try.prog 37 #[.pointer (some ⟨g, 0, none⟩), .int .i64 a1] w fun e w' => e = .returned (.int .i64 r1) ∧ IsS40 w0 w' g s0_0 r2 ∧ Below w0.heap.size w0 w' ∧ KeepBut w w' g none := by
 have HI0 := Aside0.mk hI
 have HK := Aside0.mk (KeepBut.refl w g none)
 have HL := Aside0.mk hB.size
 clear hI
 have HW0 := Aside0.mk hB.size
 have HB := Aside0.mk hB
 clear hB
 have H : ((spec_l6Rd_pick.f k s0_0 s0_1 6).bind fun bt107 => (if bt107.1 = 0 then (spec_l71Field.j0 k a1 bt107.1 (bt107.1 == 0) s0_0 bt107.2) else (spec_l71Field.j0 k a1 bt107.1 (bt107.1 == 1) s0_0 bt107.2))) = some (r1, r2) := h
 clear h
 replace H := Option.bind_eq_some_iff.mp H
 obtain ⟨⟨t107, t108⟩, A30, H⟩ := H
 replace H : (if t107 = 0 then (spec_l71Field.j0 k a1 t107 (t107 == 0) s0_0 t108) else (spec_l71Field.j0 k a1 t107 (t107 == 1) s0_0 t108)) = some (r1, r2) := H
 have A3 := Aside0.mk A30
 clear A30
 have HC4 := Aside0.mk H
 clear H
 go_enter Try.func37, Try.ntmps37
 go_upto_if 7 with (first | ((with_reducible refine gc 10 rfl ?_); refine gl (some 6) Try.func10 #[.pointer (some ⟨g, 0, none⟩), .int .i64 6] rfl ?_; (with_reducible refine (spec_l6Rd_pick.calls k g s0_0 s0_1 6 t107 t108 w0 _ ?side1 ?side2 A3.out).mono ?_); (case side1 => exact iS); (case side2 => exact bS); rintro e w5 ⟨rfl, hi, hb, hk⟩; refine ⟨_, rfl, ?_⟩; replace HK := kT HK hk; replace HI0 := Aside0.mk (hi); replace HB := Aside0.mk (hb)))
 (try simp only [Act.put, List.setIfInBounds_toArray, List.set_cons_zero, List.set_cons_succ])
 go_cut [7] (fun v7 wc => ∃ (kq : Nat) (x7_3 : Bool), v7 = .bool x7_3 ∧ Aside0 (spec_l71Field.j0 kq a1 t107 x7_3 s0_0 t108 = some (r1, r2)) ∧ Aside0 (kq ≤ k) ∧ Aside0 (IsS40 w0 wc g s0_0 t108) ∧ Aside0 (KeepBut w wc g none) ∧ Aside0 (Below w0.heap.size w0 wc))
 case first =>
  have H := HC4.out
  clear HC4
  by_cases c6 : t107 = 0
  ·rw [if_pos c6] at H
   have c6b0 := beq_iff_eq.mpr c6
   have c6b1 := bne_eq_false_iff_eq.mpr c6
   clear c6
   (first | rw [c6b0] | (simp only [i64_w, i32_w]; rw [c6b0]) | skip)
   have H' := Aside0.mk H
   clear H
   go_wp2
   go_meet
   case rel => exact ⟨_, ((t107 == 0)), (by first | rfl | (simp; done) | (simp [*]; done)), H', ⟨by first | omega | exact Nat.le_refl _⟩, ⟨iS⟩, ⟨kU⟩, ⟨bS⟩⟩
  ·rw [if_neg c6] at H
   have c6b0 := beq_eq_false_iff_ne.mpr c6
   have c6b1 := bne_iff_ne.mpr c6
   (first | rw [c6b0] | (simp only [i64_w, i32_w]; rw [c6b0]) | skip)
   have H' := Aside0.mk H
   clear H
   go_wp2
   go_meet
   case rel => exact ⟨_, ((t107 == 1)), (by first | rfl | (simp; done) | (simp [*]; done)), H', ⟨by first | omega | exact Nat.le_refl _⟩, ⟨iS⟩, ⟨kU⟩, ⟨bS⟩⟩
 case rest =>
  clear HC4
  obtain ⟨kq, x7_3, rfl, HA, HJ3, HI0, HK, HB⟩ := hcut
  cases kq with
  | zero => exact absurd HA.out (by simp [spec_l71Field.j0])
  | succ kj3 =>
   have H := HA.out
   clear HA
   simp only [spec_l71Field.j0] at H
   by_cases c7 : x7_3 = true
   ·subst c7
    replace H := it H
    simp only [Option.some.injEq, Prod.mk.injEq] at H
    obtain ⟨rfl, rfl⟩ := H
    go_wp2
    go_ret
    exact ⟨by first | rfl | (simp [errW_none, errW_some] <;> rfl) | (simp [*, errW_none, errW_some] <;> rfl), iS, bS, kU⟩
   ·replace c7 := Bool.eq_false_iff.mpr c7
    subst c7
    replace H := ie H
    by_cases c8 : t107 = 2
    ·rw [if_pos c8] at H
     have c8b0 := beq_iff_eq.mpr c8
     have c8b1 := bne_eq_false_iff_eq.mpr c8
     clear c8
     simp only [Option.some.injEq, Prod.mk.injEq] at H
     obtain ⟨rfl, rfl⟩ := H
     go_wp2
     go_ret
     exact ⟨by first | rfl | (simp [errW_none, errW_some] <;> rfl) | (simp [*, errW_none, errW_some] <;> rfl), iS, bS, kU⟩
    ·rw [if_neg c8] at H
     have c8b0 := beq_eq_false_iff_ne.mpr c8
     have c8b1 := bne_iff_ne.mpr c8
     by_cases c9 : t107 = 3
     ·rw [if_pos c9] at H
      have c9b0 := beq_iff_eq.mpr c9
      have c9b1 := bne_eq_false_iff_eq.mpr c9
      clear c9
      simp only [Option.some.injEq, Prod.mk.injEq] at H
      obtain ⟨rfl, rfl⟩ := H
      go_wp2
      go_ret
      exact ⟨by first | rfl | (simp [errW_none, errW_some] <;> rfl) | (simp [*, errW_none, errW_some] <;> rfl), iS, bS, kU⟩
     ·rw [if_neg c9] at H
      have c9b0 := beq_eq_false_iff_ne.mpr c9
      have c9b1 := bne_iff_ne.mpr c9
      replace H := Option.bind_eq_some_iff.mp H
      obtain ⟨⟨t109, t110⟩, A100, H⟩ := H
      replace H : (some (wrap64 (8 + t109), t110)) = some (r1, r2) := H
      have A10 := Aside0.mk A100
      clear A100
      simp only [Option.some.injEq, Prod.mk.injEq] at H
      obtain ⟨rfl, rfl⟩ := H
      go_wp2_with (first | ((with_reducible refine gc 10 rfl ?_); refine gl (some 16) Try.func10 #[.pointer (some ⟨g, 0, none⟩), .int .i64 a1] rfl ?_; (with_reducible refine (spec_l6Rd_pick.calls kj3 g s0_0 t108 a1 t109 t110 w0 _ ?side1 ?side2 A10.out).mono ?_); (case side1 => exact iS); (case side2 => exact bS); rintro e w11 ⟨rfl, hi, hb, hk⟩; refine ⟨_, rfl, ?_⟩; replace HK := kT HK hk; replace HI0 := Aside0.mk (hi); replace HB := Aside0.mk (hb)))
      go_ret
      exact ⟨by first | rfl | (simp [errW_none, errW_some] <;> rfl) | (simp [*, errW_none, errW_some] <;> rfl), iS, bS, kU⟩
end Go.Proofs.Ytchegijjjakmpaa.P

end
