/- A part of the claim FnGraphTurn: texts of this session and texts that its program printed out of the translation, joined. -/
import Derived.Test.YteeakklnlcjgbaaCFnGraphTurn22
import Derived.Test.YteeakklnlcjgbaaCFnGraphTurn23
import Derived.Test.YteeakklnlcjgbaaCFnGraphTurn25
import Derived.OwnWalkIn
import Derived.Test.YteeakklnlcjgbaaCFnGraphTurn0
import Derived.Test.YteeakklnlcjgbaaCFnGraphTurn1
import Derived.Test.YteeakklnlcjgbaaCFnGraphTurn2
import Derived.Test.YteeakklnlcjgbaaCFnGraphTurn3
import Derived.Test.YteeakklnlcjgbaaCFnGraphTurn4
import Derived.Test.YteeakklnlcjgbaaCFnGraphTurn5
import Derived.Test.YteeakklnlcjgbaaCFnGraphTurn6
import Derived.Test.YteeakklnlcjgbaaCFnGraphTurn7
import Derived.Test.YteeakklnlcjgbaaCFnGraphTurn8
import Derived.Test.YteeakklnlcjgbaaCFnGraphTurn9
import Derived.Test.YteeakklnlcjgbaaCFnGraphTurn10
import Derived.Test.YteeakklnlcjgbaaCFnGraphTurn11
import Derived.Test.YteeakklnlcjgbaaCFnGraphTurn12
import Derived.Test.YteeakklnlcjgbaaCFnGraphTurn13
import Derived.Test.YteeakklnlcjgbaaCFnGraphTurn14
import Derived.Test.YteeakklnlcjgbaaCFnGraphTurn15
import Derived.Test.YteeakklnlcjgbaaCFnGraphTurn16
import Derived.Test.YteeakklnlcjgbaaCFnGraphTurn17
import Derived.Test.YteeakklnlcjgbaaCFnGraphTurn18
import Derived.Test.YteeakklnlcjgbaaCFnGraphTurn19
import Derived.Test.YteeakklnlcjgbaaCFnGraphTurn20
import Derived.Test.YteeakklnlcjgbaaCFnGraphTurn21
import Derived.Test.YteeakklnlcjgbaaCFnGraphTurn24
section

namespace Go.Proofs.Yteeakklnlcjgbaa.P
open Go.RowKit Go.Proofs.YteeakklnlcjgbaaW.PrintWords Go.Proofs.YteeakklnlcjgbaaW.PrintLast Go.Proofs.YteeakklnlcjgbaaW.PrintMore
attribute [local go_sem] max2_int min2_int max_two min_two max_three min_three max_four min_four
set_option linter.unusedVariables false
set_option linter.unusedSimpArgs false
set_option maxHeartbeats 8000000 in
set_option maxRecDepth 100000 in
theorem laws_leObjs.calls (k : Nat) (A0 : Option Addr) (c0 : Nat) (l0 : List (S48)) (A1 : Option Addr) (c1 : Nat) (l1 : List (S48)) (r : Bool) (w : World) (hr0 : Kd.C k48 w A0 l0.length l0) (hc0 : l0.length ≤ c0) (hr1 : Kd.C k48 w A1 l1.length l1) (hc1 : l1.length ≤ c1) (h : laws_leObjs.f k l0 l1 = some r) :
    Calls Try.prog 30 #[.slice A0 l0.length c0, .slice A1 l1.length c1] w fun e w' => e = .returned (.bool r) ∧ Drawn0 w w' := by
  have HR0 := Aside0.mk hr0
  have HC0 := Aside0.mk hc0
  clear hr0 hc0
  have HR1 := Aside0.mk hr1
  have HC1 := Aside0.mk hc1
  clear hr1 hc1
  have H : (if (l0.length : Int) = (l1.length : Int) then (laws_leObjs.l0 k l0 l1 0) else (some false)) = some r := h
  clear h
  by_cases c3 : (l0.length : Int) = (l1.length : Int)
  · rw [if_pos c3] at H
    have c3b0 : ((l0.length : Int) == (l1.length : Int)) = true := beq_iff_eq.mpr c3
    have c3b1 : ((l0.length : Int) != (l1.length : Int)) = false := bne_eq_false_iff_eq.mpr c3
    have c3b2 : (l0.length == l1.length) = true := by first | simpa using c3 | (simp at c3 ⊢; omega)
    clear c3
    have H' := Aside0.mk H
    clear H
    go_enter Try.func30, Try.ntmps30
    go_wp2
    repeat (go_quiet (fail); try go_wp2)
    go_loopg [5] k (fun kq v5 w' => ∃ (x5_1 : Int), v5 = .int .i64 x5_1 ∧ Aside0 (laws_leObjs.l0 kq l0 l1 x5_1 = some r) ∧ Aside0 (kq ≤ k) ∧ Drawn0 w w')
    case atStart => exact ⟨(0), (by first | rfl | (simp; done) | (simp [*]; done)), H', ⟨Nat.le_refl _⟩, by repeat (first | exact Drawn0.refl _ | apply Drawn0.step)⟩
    case round =>
      clear H'
      try clear c1
      try clear p2
      try clear c3
      try clear c3b0
      try clear c3b1
      try clear c3b2
      obtain ⟨x5_1, rfl, HA, HK1, ⟨m1, rfl⟩⟩ := hrel
      cases gk with
      | zero => exact absurd HA.out (by simp [laws_leObjs.l0])
      | succ k1 =>
        have H := HA.out
        clear HA
        simp only [laws_leObjs.l0] at H
        by_cases c4 : x5_1 < (l0.length : Int)
        · rw [if_pos c4] at H
          have c4b0 : decide (x5_1 < (l0.length : Int)) = true := decide_eq_true c4
          clear c4
          by_cases c5 : 0 ≤ x5_1
          · rw [if_pos c5] at H
            have c5b0 : decide (0 ≤ x5_1) = true := decide_eq_true c5
            clear c5
            by_cases c6 : x5_1 < (l1.length : Int)
            · rw [if_pos c6] at H
              have c6b0 : decide (x5_1 < (l1.length : Int)) = true := decide_eq_true c6
              clear c6
              by_cases c7 : ((rd_T48 l0 x5_1).f0) = ((rd_T48 l1 x5_1).f0)
              · rw [if_pos c7] at H
                have c7b0 : (((rd_T48 l0 x5_1).f0) == ((rd_T48 l1 x5_1).f0)) = true := beq_iff_eq.mpr c7
                have c7b1 : (((rd_T48 l0 x5_1).f0) != ((rd_T48 l1 x5_1).f0)) = false := bne_eq_false_iff_eq.mpr c7
                clear c7
                replace H := Option.bind_eq_some_iff.mp H
                obtain ⟨t379, A80, H⟩ := H
                replace H : (if t379 = true then (laws_leObjs.l0 k1 l0 l1 (wrap64 (x5_1 + 1))) else (some false)) = some r := H
                have A8 := Aside0.mk A80
                clear A80
                by_cases c9 : t379 = true
                · subst c9
                  have H1 : (laws_leObjs.l0 k1 l0 l1 (wrap64 (x5_1 + 1))) = some r := by rw [if_pos rfl] at H; exact H
                  clear H
                  have H := H1
                  clear H1
                  have H' := Aside0.mk H
                  clear H
                  have p375 : 0 ≤ (x5_1 : Int) := of_decide_eq_true (by first | (with_reducible assumption) | assumption)
                  have q375 : x5_1 < (l0.length : Int) := of_decide_eq_true (by first | (with_reducible assumption) | assumption)
                  obtain ⟨ad375, A375_1, c375_1, e375, hx375_0, hx375_1, hl375_1, hi375_1⟩ := at_T48 HR0.out x5_1 p375 q375
                  cases e375
                  have HR375_1 := Aside0.mk hi375_1
                  have HC375_1 := Aside0.mk hl375_1
                  clear hi375_1 hl375_1
                  replace p375 := eq_true p375
                  replace q375 := eq_true q375
                  have p376 : 0 ≤ (x5_1 : Int) := of_decide_eq_true (by first | (with_reducible assumption) | assumption)
                  have q376 : x5_1 < (l1.length : Int) := of_decide_eq_true (by first | (with_reducible assumption) | assumption)
                  obtain ⟨ad376, A376_1, c376_1, e376, hx376_0, hx376_1, hl376_1, hi376_1⟩ := at_T48 HR1.out x5_1 p376 q376
                  cases e376
                  have HR376_1 := Aside0.mk hi376_1
                  have HC376_1 := Aside0.mk hl376_1
                  clear hi376_1 hl376_1
                  replace p376 := eq_true p376
                  replace q376 := eq_true q376
                  have p377 : 0 ≤ (x5_1 : Int) := of_decide_eq_true (by first | (with_reducible assumption) | assumption)
                  have q377 : x5_1 < (l0.length : Int) := of_decide_eq_true (by first | (with_reducible assumption) | assumption)
                  obtain ⟨ad377, A377_1, c377_1, e377, hx377_0, hx377_1, hl377_1, hi377_1⟩ := at_T48 HR0.out x5_1 p377 q377
                  obtain rfl : ad375 = ad377 := (by injection e377)
                  have HR377_1 := Aside0.mk hi377_1
                  have HC377_1 := Aside0.mk hl377_1
                  clear hi377_1 hl377_1
                  replace p377 := eq_true p377
                  replace q377 := eq_true q377
                  have ea_ := Option.some.inj (hx375_1.symm.trans hx377_1)
                  injection ea_ with ea_ en_ ec_
                  subst ea_
                  subst ec_
                  clear en_
                  have p378 : 0 ≤ (x5_1 : Int) := of_decide_eq_true (by first | (with_reducible assumption) | assumption)
                  have q378 : x5_1 < (l1.length : Int) := of_decide_eq_true (by first | (with_reducible assumption) | assumption)
                  obtain ⟨ad378, A378_1, c378_1, e378, hx378_0, hx378_1, hl378_1, hi378_1⟩ := at_T48 HR1.out x5_1 p378 q378
                  obtain rfl : ad376 = ad378 := (by injection e378)
                  have HR378_1 := Aside0.mk hi378_1
                  have HC378_1 := Aside0.mk hl378_1
                  clear hi378_1 hl378_1
                  replace p378 := eq_true p378
                  replace q378 := eq_true q378
                  have ea_ := Option.some.inj (hx376_1.symm.trans hx378_1)
                  injection ea_ with ea_ en_ ec_
                  subst ea_
                  subst ec_
                  clear en_
                  go_wp2_with (first | (go_at_call 31; (with_reducible refine (laws_leVals.calls k1 _ _ ((rd_T48 l0 x5_1).f1) _ _ ((rd_T48 l1 x5_1).f1) true _ ?side1 ?side2 ?side3 ?side4 A8.out).mono ?_); (case side1 => repeat (first | exact HR377_1.out | (with_reducible refine Kd.C_alloc ?_ _) | (with_reducible refine Kd.C_drewN ?_ _) | (with_reducible refine Kd.C_drew ?_))); (case side2 => exact HC377_1.out); (case side3 => repeat (first | exact HR378_1.out | (with_reducible refine Kd.C_alloc ?_ _) | (with_reducible refine Kd.C_drewN ?_ _) | (with_reducible refine Kd.C_drew ?_))); (case side4 => exact HC378_1.out); rintro e w' ⟨rfl, ⟨nd, rfl⟩⟩; (try first | exact ⟨rfl, _, World.drewN_drewN _ _ _⟩ | exact ⟨rfl, _, Eq.trans (World.drewN_drewN _ _ _) (congrArg (World.drewN _) (Nat.add_assoc _ _ _))⟩)))
                  repeat (go_quiet (first | (go_at_call 31; (with_reducible refine (laws_leVals.calls k1 _ _ ((rd_T48 l0 x5_1).f1) _ _ ((rd_T48 l1 x5_1).f1) true _ ?side1 ?side2 ?side3 ?side4 A8.out).mono ?_); (case side1 => repeat (first | exact HR377_1.out | (with_reducible refine Kd.C_alloc ?_ _) | (with_reducible refine Kd.C_drewN ?_ _) | (with_reducible refine Kd.C_drew ?_))); (case side2 => exact HC377_1.out); (case side3 => repeat (first | exact HR378_1.out | (with_reducible refine Kd.C_alloc ?_ _) | (with_reducible refine Kd.C_drewN ?_ _) | (with_reducible refine Kd.C_drew ?_))); (case side4 => exact HC378_1.out); rintro e w' ⟨rfl, ⟨nd, rfl⟩⟩; (try first | exact ⟨rfl, _, World.drewN_drewN _ _ _⟩ | exact ⟨rfl, _, Eq.trans (World.drewN_drewN _ _ _) (congrArg (World.drewN _) (Nat.add_assoc _ _ _))⟩))); try go_wp2_with (first | (go_at_call 31; (with_reducible refine (laws_leVals.calls k1 _ _ ((rd_T48 l0 x5_1).f1) _ _ ((rd_T48 l1 x5_1).f1) true _ ?side1 ?side2 ?side3 ?side4 A8.out).mono ?_); (case side1 => repeat (first | exact HR377_1.out | (with_reducible refine Kd.C_alloc ?_ _) | (with_reducible refine Kd.C_drewN ?_ _) | (with_reducible refine Kd.C_drew ?_))); (case side2 => exact HC377_1.out); (case side3 => repeat (first | exact HR378_1.out | (with_reducible refine Kd.C_alloc ?_ _) | (with_reducible refine Kd.C_drewN ?_ _) | (with_reducible refine Kd.C_drew ?_))); (case side4 => exact HC378_1.out); rintro e w' ⟨rfl, ⟨nd, rfl⟩⟩; (try first | exact ⟨rfl, _, World.drewN_drewN _ _ _⟩ | exact ⟨rfl, _, Eq.trans (World.drewN_drewN _ _ _) (congrArg (World.drewN _) (Nat.add_assoc _ _ _))⟩))))
                  go_roundg k1
                  case measure => have := HK1.out; omega
                  case rel => exact ⟨(wrap64 (x5_1 + 1)), (by first | rfl | (simp; done) | (simp [*]; done)), H', ⟨by have := HK1.out; omega⟩, by repeat (first | exact Drawn0.refl _ | apply Drawn0.step)⟩
                · replace c9 := Bool.eq_false_iff.mpr c9
                  subst c9
                  have H1 : (some false) = some r := by rw [if_neg (show ¬ (false = true) by decide)] at H; exact H
                  clear H
                  have H := H1
                  clear H1
                  obtain rfl := Option.some.inj H
                  simp only [Option.some.injEq, Prod.mk.injEq] at H
                  obtain ⟨rfl⟩ := H
                  have p375 : 0 ≤ (x5_1 : Int) := of_decide_eq_true (by first | (with_reducible assumption) | assumption)
                  have q375 : x5_1 < (l0.length : Int) := of_decide_eq_true (by first | (with_reducible assumption) | assumption)
                  obtain ⟨ad375, A375_1, c375_1, e375, hx375_0, hx375_1, hl375_1, hi375_1⟩ := at_T48 HR0.out x5_1 p375 q375
                  cases e375
                  have HR375_1 := Aside0.mk hi375_1
                  have HC375_1 := Aside0.mk hl375_1
                  clear hi375_1 hl375_1
                  replace p375 := eq_true p375
                  replace q375 := eq_true q375
                  have p376 : 0 ≤ (x5_1 : Int) := of_decide_eq_true (by first | (with_reducible assumption) | assumption)
                  have q376 : x5_1 < (l1.length : Int) := of_decide_eq_true (by first | (with_reducible assumption) | assumption)
                  obtain ⟨ad376, A376_1, c376_1, e376, hx376_0, hx376_1, hl376_1, hi376_1⟩ := at_T48 HR1.out x5_1 p376 q376
                  cases e376
                  have HR376_1 := Aside0.mk hi376_1
                  have HC376_1 := Aside0.mk hl376_1
                  clear hi376_1 hl376_1
                  replace p376 := eq_true p376
                  replace q376 := eq_true q376
                  have p377 : 0 ≤ (x5_1 : Int) := of_decide_eq_true (by first | (with_reducible assumption) | assumption)
                  have q377 : x5_1 < (l0.length : Int) := of_decide_eq_true (by first | (with_reducible assumption) | assumption)
                  obtain ⟨ad377, A377_1, c377_1, e377, hx377_0, hx377_1, hl377_1, hi377_1⟩ := at_T48 HR0.out x5_1 p377 q377
                  obtain rfl : ad375 = ad377 := (by injection e377)
                  have HR377_1 := Aside0.mk hi377_1
                  have HC377_1 := Aside0.mk hl377_1
                  clear hi377_1 hl377_1
                  replace p377 := eq_true p377
                  replace q377 := eq_true q377
                  have ea_ := Option.some.inj (hx375_1.symm.trans hx377_1)
                  injection ea_ with ea_ en_ ec_
                  subst ea_
                  subst ec_
                  clear en_
                  have p378 : 0 ≤ (x5_1 : Int) := of_decide_eq_true (by first | (with_reducible assumption) | assumption)
                  have q378 : x5_1 < (l1.length : Int) := of_decide_eq_true (by first | (with_reducible assumption) | assumption)
                  obtain ⟨ad378, A378_1, c378_1, e378, hx378_0, hx378_1, hl378_1, hi378_1⟩ := at_T48 HR1.out x5_1 p378 q378
                  obtain rfl : ad376 = ad378 := (by injection e378)
                  have HR378_1 := Aside0.mk hi378_1
                  have HC378_1 := Aside0.mk hl378_1
                  clear hi378_1 hl378_1
                  replace p378 := eq_true p378
                  replace q378 := eq_true q378
                  have ea_ := Option.some.inj (hx376_1.symm.trans hx378_1)
                  injection ea_ with ea_ en_ ec_
                  subst ea_
                  subst ec_
                  clear en_
                  go_wp2_with (first | (go_at_call 31; (with_reducible refine (laws_leVals.calls k1 _ _ ((rd_T48 l0 x5_1).f1) _ _ ((rd_T48 l1 x5_1).f1) false _ ?side1 ?side2 ?side3 ?side4 A8.out).mono ?_); (case side1 => repeat (first | exact HR377_1.out | (with_reducible refine Kd.C_alloc ?_ _) | (with_reducible refine Kd.C_drewN ?_ _) | (with_reducible refine Kd.C_drew ?_))); (case side2 => exact HC377_1.out); (case side3 => repeat (first | exact HR378_1.out | (with_reducible refine Kd.C_alloc ?_ _) | (with_reducible refine Kd.C_drewN ?_ _) | (with_reducible refine Kd.C_drew ?_))); (case side4 => exact HC378_1.out); rintro e w' ⟨rfl, ⟨nd, rfl⟩⟩; (try first | exact ⟨rfl, _, World.drewN_drewN _ _ _⟩ | exact ⟨rfl, _, Eq.trans (World.drewN_drewN _ _ _) (congrArg (World.drewN _) (Nat.add_assoc _ _ _))⟩)))
                  repeat (go_quiet (first | (go_at_call 31; (with_reducible refine (laws_leVals.calls k1 _ _ ((rd_T48 l0 x5_1).f1) _ _ ((rd_T48 l1 x5_1).f1) false _ ?side1 ?side2 ?side3 ?side4 A8.out).mono ?_); (case side1 => repeat (first | exact HR377_1.out | (with_reducible refine Kd.C_alloc ?_ _) | (with_reducible refine Kd.C_drewN ?_ _) | (with_reducible refine Kd.C_drew ?_))); (case side2 => exact HC377_1.out); (case side3 => repeat (first | exact HR378_1.out | (with_reducible refine Kd.C_alloc ?_ _) | (with_reducible refine Kd.C_drewN ?_ _) | (with_reducible refine Kd.C_drew ?_))); (case side4 => exact HC378_1.out); rintro e w' ⟨rfl, ⟨nd, rfl⟩⟩; (try first | exact ⟨rfl, _, World.drewN_drewN _ _ _⟩ | exact ⟨rfl, _, Eq.trans (World.drewN_drewN _ _ _) (congrArg (World.drewN _) (Nat.add_assoc _ _ _))⟩))); try go_wp2_with (first | (go_at_call 31; (with_reducible refine (laws_leVals.calls k1 _ _ ((rd_T48 l0 x5_1).f1) _ _ ((rd_T48 l1 x5_1).f1) false _ ?side1 ?side2 ?side3 ?side4 A8.out).mono ?_); (case side1 => repeat (first | exact HR377_1.out | (with_reducible refine Kd.C_alloc ?_ _) | (with_reducible refine Kd.C_drewN ?_ _) | (with_reducible refine Kd.C_drew ?_))); (case side2 => exact HC377_1.out); (case side3 => repeat (first | exact HR378_1.out | (with_reducible refine Kd.C_alloc ?_ _) | (with_reducible refine Kd.C_drewN ?_ _) | (with_reducible refine Kd.C_drew ?_))); (case side4 => exact HC378_1.out); rintro e w' ⟨rfl, ⟨nd, rfl⟩⟩; (try first | exact ⟨rfl, _, World.drewN_drewN _ _ _⟩ | exact ⟨rfl, _, Eq.trans (World.drewN_drewN _ _ _) (congrArg (World.drewN _) (Nat.add_assoc _ _ _))⟩))))
                  go_ret
                  exact ⟨by first | rfl | (simp; done) | (simp [*]; done), by repeat (first | exact Drawn0.refl _ | apply Drawn0.step)⟩
              · rw [if_neg c7] at H
                have c7b0 : (((rd_T48 l0 x5_1).f0) == ((rd_T48 l1 x5_1).f0)) = false := beq_eq_false_iff_ne.mpr c7
                have c7b1 : (((rd_T48 l0 x5_1).f0) != ((rd_T48 l1 x5_1).f0)) = true := bne_iff_ne.mpr c7
                obtain rfl := Option.some.inj H
                simp only [Option.some.injEq, Prod.mk.injEq] at H
                obtain ⟨rfl⟩ := H
                have p375 : 0 ≤ (x5_1 : Int) := of_decide_eq_true (by first | (with_reducible assumption) | assumption)
                have q375 : x5_1 < (l0.length : Int) := of_decide_eq_true (by first | (with_reducible assumption) | assumption)
                obtain ⟨ad375, A375_1, c375_1, e375, hx375_0, hx375_1, hl375_1, hi375_1⟩ := at_T48 HR0.out x5_1 p375 q375
                cases e375
                have HR375_1 := Aside0.mk hi375_1
                have HC375_1 := Aside0.mk hl375_1
                clear hi375_1 hl375_1
                replace p375 := eq_true p375
                replace q375 := eq_true q375
                have p376 : 0 ≤ (x5_1 : Int) := of_decide_eq_true (by first | (with_reducible assumption) | assumption)
                have q376 : x5_1 < (l1.length : Int) := of_decide_eq_true (by first | (with_reducible assumption) | assumption)
                obtain ⟨ad376, A376_1, c376_1, e376, hx376_0, hx376_1, hl376_1, hi376_1⟩ := at_T48 HR1.out x5_1 p376 q376
                cases e376
                have HR376_1 := Aside0.mk hi376_1
                have HC376_1 := Aside0.mk hl376_1
                clear hi376_1 hl376_1
                replace p376 := eq_true p376
                replace q376 := eq_true q376
                go_wp2
                repeat (go_quiet (fail); try go_wp2)
                go_ret
                exact ⟨by first | rfl | (simp; done) | (simp [*]; done), by repeat (first | exact Drawn0.refl _ | apply Drawn0.step)⟩
            · rw [if_neg c6] at H
              exact absurd H (by simp)
          · rw [if_neg c5] at H
            exact absurd H (by simp)
        · rw [if_neg c4] at H
          have c4b0 : decide (x5_1 < (l0.length : Int)) = false := decide_eq_false c4
          clear c4
          obtain rfl := Option.some.inj H
          simp only [Option.some.injEq, Prod.mk.injEq] at H
          obtain ⟨rfl⟩ := H
          go_wp2
          repeat (go_quiet (fail); try go_wp2)
          go_ret
          exact ⟨by first | rfl | (simp; done) | (simp [*]; done), by repeat (first | exact Drawn0.refl _ | apply Drawn0.step)⟩
  · rw [if_neg c3] at H
    have c3b0 : ((l0.length : Int) == (l1.length : Int)) = false := beq_eq_false_iff_ne.mpr c3
    have c3b1 : ((l0.length : Int) != (l1.length : Int)) = true := bne_iff_ne.mpr c3
    have c3b2 : (l0.length == l1.length) = false := by first | simpa using c3 | (simp at c3 ⊢; omega)
    obtain rfl := Option.some.inj H
    simp only [Option.some.injEq, Prod.mk.injEq] at H
    obtain ⟨rfl⟩ := H
    go_enter Try.func30, Try.ntmps30
    go_wp2
    repeat (go_quiet (fail); try go_wp2)
    go_ret
    exact ⟨by first | rfl | (simp; done) | (simp [*]; done), by repeat (first | exact Drawn0.refl _ | apply Drawn0.step)⟩
end Go.Proofs.Yteeakklnlcjgbaa.P

end
section

namespace Go.Proofs.Yteeakklnlcjgbaa.P
open Go.RowKit Go.Proofs.YteeakklnlcjgbaaW.PrintWords Go.Proofs.YteeakklnlcjgbaaW.PrintLast Go.Proofs.YteeakklnlcjgbaaW.PrintMore
attribute [local go_sem] max2_int min2_int max_two min_two max_three min_three max_four min_four
set_option linter.unusedVariables false
set_option linter.unusedSimpArgs false
set_option maxHeartbeats 8000000 in
set_option maxRecDepth 100000 in
theorem laws_leTurn.calls (k : Nat) (A0 : Option Addr) (c0 : Nat) (l0 : List (S46)) (a1 : Int) (a2 : Int) (r : List (S46)) (w : World) (hr0 : Kd.C k46 w A0 l0.length l0) (hc0 : l0.length ≤ c0) (h : laws_leTurn.f k l0 a1 a2 = some r) :
    Calls Try.prog 46 #[.slice A0 l0.length c0, .int .i64 a1, .int .i64 a2] w fun e w' => ∃ v0_ : Value, e = .returned (v0_) ∧ Kd.R k46 46 w' w.heap.size (fun _ => True) v0_ r ∧ Below w.heap.size w w' := by
  have hu46 := Try.underlying46
  have HR0 := Aside0.mk hr0
  have HC0 := Aside0.mk hc0
  clear hr0 hc0
  have HB := Aside0.mk (Below.refl w.heap.size w)
  have H : (laws_leTurn.l0 k l0 a1 a2 (([] : List (S46))) 0) = some r := h
  clear h
  obtain ⟨y483, hy483⟩ : ∃ y_ : List (S46), y_ = (([] : List (S46))) := ⟨_, rfl⟩
  replace H : (laws_leTurn.l0 k l0 a1 a2 y483 0) = some r := by first | (rw [hy483]; with_reducible exact H) | (have H2_ := (Option.bind_some _ _).symm.trans H; rw [hy483]; with_reducible exact H2_) | (have H2_ := (Option.bind_some _ _).symm.trans H; with_reducible exact H2_) | with_reducible exact H | (rw [hy483]; exact H) | exact H
  have Ny483 := Aside0.mk hy483
  clear hy483
  have H' := Aside0.mk H
  clear H
  go_enter Try.func46, Try.ntmps46
  go_wp2_with (first | ((with_reducible refine gate_dst (N := 10) rfl ?_); refine Kd.R_lit k46 _ 46 ?hg (N := 10) ?hd (xs := ([] : List (S46))) (inner := []) (ok := fun _ => True) (okp := fun _ => True) ?hr ?hp (fun _ hk => hk) trivial (Below.refl _ _) (Nat.le_refl _) (by simp) ?_; (case hd => rfl); (case hg => rfl); (case hr => first | (go_simp; done) | (go_simp; rfl)); (case hp => exact (Reps.none _ _)); intro v484 w4 ho5 hb hg_ hnew_; clear hg_ hnew_; (first | rw [← Ny483.out] at ho5 | (simp only [Int.reduceToNat] at ho5; rw [← Ny483.out] at ho5)); have n0_ := Aside0.mk (Kd.R_lower ho5 (below_size (by repeat (first | (with_reducible first | exact HB.out | apply below_alloc | apply pw_below_drewN | apply below_drew1) | exact HB.out)))); have n1_ := Aside0.mk (below_step (by repeat (first | (with_reducible first | exact HB.out | apply below_alloc | apply pw_below_drewN | apply below_drew1) | exact HB.out)) hb); clear HB; have HO485 := n0_; have HB := n1_; clear n0_ n1_; clear hb ho5))
  go_loopg [7, 8] k (fun kq v7 v8 w' => ∃ (x7_1 : List (S46)) (x8_1 : Int), v8 = .int .i64 x8_1 ∧ Aside0 (laws_leTurn.l0 kq l0 a1 a2 x7_1 x8_1 = some r) ∧ Aside0 (kq ≤ k) ∧ Aside0 (Kd.R k46 46 w' w.heap.size (fun _ => True) v7 x7_1) ∧ Aside0 (Below w.heap.size w w'))
  case atStart => exact ⟨(y483), (0), (by first | rfl | (simp; done) | (simp [*]; done)), H', ⟨Nat.le_refl _⟩, ⟨by (with_reducible repeat (first | apply Kd.R_alloc | apply Kd.R_drewN | apply Kd.R_drew)); exact HO485.out⟩, ⟨by repeat (first | (with_reducible first | exact HB.out | apply below_alloc | apply pw_below_drewN | apply below_drew1) | exact HB.out)⟩⟩
  case round =>
    clear H'
    try clear p2
    try clear c4
    obtain ⟨x7_1, x8_1, rfl, HA, HK1, HO_7, HB⟩ := hrel
    cases gk with
    | zero => exact absurd HA.out (by simp [laws_leTurn.l0])
    | succ k1 =>
      have H := HA.out
      clear HA
      simp only [laws_leTurn.l0] at H
      by_cases c6 : x8_1 < (l0.length : Int)
      · rw [if_pos c6] at H
        have c6b0 : decide (x8_1 < (l0.length : Int)) = true := decide_eq_true c6
        clear c6
        by_cases c7 : 0 ≤ x8_1
        · rw [if_pos c7] at H
          have c7b0 : decide (0 ≤ x8_1) = true := decide_eq_true c7
          clear c7
          obtain ⟨bq8, hbq8⟩ : ∃ b_ : Bool, b_ = ((rd_T46 l0 x8_1).f0) := ⟨_, rfl⟩
          replace H : (if bq8 = true then (if ((rd_T46 l0 x8_1).f1) > 0 then (if a1 = 0 then (none) else (if x7_1.length < 8796093022208 then (laws_leTurn.l0 k1 l0 a1 a2 (x7_1 ++ [(⟨bq8, wrap64 ((Int.tmod (wrap64 ((wrap64 ((wrap64 (((rd_T46 l0 x8_1).f1) - 1)) - a2)) + a1)) a1) + 1)⟩ : S46)]) (wrap64 (x8_1 + 1))) else (none))) else (if x7_1.length < 8796093022208 then (laws_leTurn.l0 k1 l0 a1 a2 (x7_1 ++ [(⟨bq8, (rd_T46 l0 x8_1).f1⟩ : S46)]) (wrap64 (x8_1 + 1))) else (none))) else (if x7_1.length < 8796093022208 then (laws_leTurn.l0 k1 l0 a1 a2 (x7_1 ++ [(⟨bq8, (rd_T46 l0 x8_1).f1⟩ : S46)]) (wrap64 (x8_1 + 1))) else (none))) = some r := by rw [← hbq8] at H; exact H
          have Nbq8 := Aside0.mk hbq8
          clear hbq8
          by_cases c9 : bq8 = true
          · subst c9
            have H1 : (if ((rd_T46 l0 x8_1).f1) > 0 then (if a1 = 0 then (none) else (if x7_1.length < 8796093022208 then (laws_leTurn.l0 k1 l0 a1 a2 (x7_1 ++ [(⟨true, wrap64 ((Int.tmod (wrap64 ((wrap64 ((wrap64 (((rd_T46 l0 x8_1).f1) - 1)) - a2)) + a1)) a1) + 1)⟩ : S46)]) (wrap64 (x8_1 + 1))) else (none))) else (if x7_1.length < 8796093022208 then (laws_leTurn.l0 k1 l0 a1 a2 (x7_1 ++ [(⟨true, (rd_T46 l0 x8_1).f1⟩ : S46)]) (wrap64 (x8_1 + 1))) else (none))) = some r := by rw [if_pos rfl] at H; exact H
            clear H
            have H := H1
            clear H1
            by_cases c10 : ((rd_T46 l0 x8_1).f1) > 0
            · rw [if_pos c10] at H
              have c10b0 : decide (0 < ((rd_T46 l0 x8_1).f1)) = true := decide_eq_true c10
              clear c10
              by_cases c11 : a1 = 0
              · rw [if_pos c11] at H
                exact absurd H (by simp)
              · rw [if_neg c11] at H
                have c11b0 : (a1 == 0) = false := beq_eq_false_iff_ne.mpr c11
                have c11b1 : (a1 != 0) = true := bne_iff_ne.mpr c11
                by_cases c12 : x7_1.length < 8796093022208
                · rw [if_pos c12] at H
                  have LMc12 := Aside0.mk c12
                  clear c12
                  obtain ⟨y488, hy488⟩ : ∃ y_ : List (S46), y_ = (x7_1 ++ [(⟨true, wrap64 ((Int.tmod (wrap64 ((wrap64 ((wrap64 (((rd_T46 l0 x8_1).f1) - 1)) - a2)) + a1)) a1) + 1)⟩ : S46)]) := ⟨_, rfl⟩
                  replace H : (laws_leTurn.l0 k1 l0 a1 a2 y488 (wrap64 (x8_1 + 1))) = some r := by first | (rw [hy488]; with_reducible exact H) | (have H2_ := (Option.bind_some _ _).symm.trans H; rw [hy488]; with_reducible exact H2_) | (have H2_ := (Option.bind_some _ _).symm.trans H; with_reducible exact H2_) | with_reducible exact H | (rw [hy488]; exact H) | exact H
                  have Ny488 := Aside0.mk hy488
                  clear hy488
                  have H' := Aside0.mk H
                  clear H
                  have p486 : 0 ≤ (x8_1 : Int) := of_decide_eq_true (by first | (with_reducible assumption) | assumption)
                  have q486 : x8_1 < (l0.length : Int) := of_decide_eq_true (by first | (with_reducible assumption) | assumption)
                  obtain ⟨ad486, e486, hx486_0, hx486_1⟩ := at_T46 HR0.out x8_1 p486 q486
                  (try rw [← Nbq8.out] at hx486_0)
                  cases e486
                  replace hx486_0 := (HB.out.cell (World.block_lt_of_cell? w _ hx486_0)).trans hx486_0
                  replace hx486_1 := (HB.out.cell (World.block_lt_of_cell? w _ hx486_1)).trans hx486_1
                  replace p486 := eq_true p486
                  replace q486 := eq_true q486
                  go_wp2_with (first | ((with_reducible refine gate_dst (N := 9) rfl ?_); refine box_event ?hg (N := 9) ?hd (cs := #[.bool false, .int .i64 0]) (t := 46) ?hr ?_; (case hd => rfl); (case hg => rfl); (case hr => first | (go_simp; done) | (go_simp; rfl)); intro gb487 hg w13 hbox hb; have n0_ := Aside0.mk (Kd.R_below (Kd.R_elderB (by (with_reducible repeat (first | apply Kd.R_alloc | apply Kd.R_drewN | apply Kd.R_drew)); exact HO_7.out) gb487 (Nat.le_of_eq hg.symm)) hb); have n1_ := Aside0.mk (below_step (by repeat (first | (with_reducible first | exact HB.out | apply below_alloc | apply pw_below_drewN | apply below_drew1) | exact HB.out)) hb); have n2_ := Aside0.mk (hbox); have n3_ := Aside0.mk ((by rw [hg]; exact (below_size (by repeat (first | (with_reducible first | exact HB.out | apply below_alloc | apply pw_below_drewN | apply below_drew1) | exact HB.out))) : w.heap.size ≤ gb487)); have n4_ := Aside0.mk ((by rw [hg]; exact (below_size (by repeat (first | (with_reducible first | exact HB.out | apply below_alloc | apply pw_below_drewN | apply below_drew1) | exact HB.out))) : w.heap.size ≤ gb487)); clear HO_7; clear HB; have HO_7 := n0_; have HB := n1_; have BK487 := n2_; have GW487 := n3_; have GE487 := n4_; clear n0_ n1_ n2_ n3_ n4_; clear hb hbox hg; have hcz14_0 : w13.cell? ⟨gb487, 0, none⟩ = some (.bool false) := (blk_cell BK487.out 0).trans rfl; have hcz14_1 : w13.cell? ⟨gb487, 1, none⟩ = some (.int .i64 0) := (blk_cell BK487.out 1).trans rfl; have hcy_ := (blk_cell (blk_put (blk_put BK487.out 0 (.bool true) rfl) 1 (.int .i64 ((rd_T46 l0 x8_1).f1)) rfl) 1).trans (show _ = some (.int .i64 ((rd_T46 l0 x8_1).f1)) from rfl); have hfz14_0 := blk_frozen BK487.out 0; have hfz14_1 := blk_frozen BK487.out 1) | ((with_reducible refine gate_builtin (b := .append) (xs := #[.tmp 39, .tmp 41]) rfl ?_); at_builtin; refine Kd.R_append k46 (w0 := w) w.heap.size rfl (.tmp 39) (.tmp 41) 35 46 (.agg #[(.bool false), (.int .i64 0)]) 16 rfl Try.underlying35 info46 rfl (by decide) (by omega) u7 x7_1 (⟨true, wrap64 ((Int.tmod (wrap64 ((wrap64 ((wrap64 (((rd_T46 l0 x8_1).f1) - 1)) - a2)) + a1)) a1) + 1)⟩ : S46) [.bool true, .int .i64 (wrap64 ((Int.tmod (wrap64 ((wrap64 ((wrap64 (((rd_T46 l0 x8_1).f1) - 1)) - a2)) + a1)) a1) + 1))] (fun k_ => k_ ≠ gb487) (fun _ => False) rfl (by first | (go_simp; done) | (go_simp; rfl)) ?aP (fun _ hk => hk.elim) ?aF ?aO ?aB ?aS ?aL ?_; (case aP => exact k46_mkM _ _ _ (⟨true, wrap64 ((Int.tmod (wrap64 ((wrap64 ((wrap64 (((rd_T46 l0 x8_1).f1) - 1)) - a2)) + a1)) a1) + 1)⟩ : S46)); (case aB => exact (by repeat (first | (with_reducible first | exact HB.out | apply below_alloc | apply pw_below_drewN | apply below_drew1 | refine below_set ?_ GE487.out) | exact HB.out))); (case aF => exact (fun k_ hk => Kd.freshB (g := gb487) (o := .cells #[.bool true, .int .i64 (wrap64 ((Int.tmod (wrap64 ((wrap64 ((wrap64 (((rd_T46 l0 x8_1).f1) - 1)) - a2)) + a1)) a1) + 1))] 46 (0, 0)) (by (with_reducible repeat (first | refine blk_drewN ?_ _ | refine blk_drew ?_ | refine blk_alloc ?_ _)); refine blk_put (cs := #[.bool true, .int .i64 ((rd_T46 l0 x8_1).f1)]) ?_ 1 _ rfl; (with_reducible repeat (first | refine blk_drewN ?_ _ | refine blk_drew ?_ | refine blk_alloc ?_ _)); refine blk_put (cs := #[.bool true, .int .i64 0]) ?_ 1 _ rfl; (with_reducible repeat (first | refine blk_drewN ?_ _ | refine blk_drew ?_ | refine blk_alloc ?_ _)); refine blk_put (cs := #[.bool false, .int .i64 0]) ?_ 0 _ rfl; (with_reducible repeat (first | refine blk_drewN ?_ _ | refine blk_drew ?_ | refine blk_alloc ?_ _)); exact BK487.out) k_ hk)); (case aO => exact (by (with_reducible repeat (first | apply Kd.R_alloc | apply Kd.R_drewN | apply Kd.R_drew)); exact Kd.R_mono (Kd.R_far (p := ⟨gb487, 1, none⟩) (Kd.R_far (p := ⟨gb487, 1, none⟩) (Kd.R_far (p := ⟨gb487, 0, none⟩) (Kd.R_mono HO_7.out (fun k_ hk => (⟨hk, hk.2⟩ : _ ∧ k_ ≠ gb487))) (fun _ hk => hk.2) (.bool true)) (fun _ hk => hk.2) (.int .i64 ((rd_T46 l0 x8_1).f1))) (fun _ hk => hk.2) (.int .i64 (wrap64 ((Int.tmod (wrap64 ((wrap64 ((wrap64 (((rd_T46 l0 x8_1).f1) - 1)) - a2)) + a1)) a1) + 1)))) (fun _ hk => hk.1.2))); (case aS => exact (below_size (by repeat (first | (with_reducible first | exact HB.out | apply below_alloc | apply pw_below_drewN | apply below_drew1 | refine below_set ?_ GE487.out) | exact HB.out)))); (case aL => have := LMc12.out; omega); intro v489 w15 ho hb hg hat; rw [← Ny488.out] at ho; have n0_ := Aside0.mk (blk_grown (g := gb487) (o := .cells #[.bool true, .int .i64 (wrap64 ((Int.tmod (wrap64 ((wrap64 ((wrap64 (((rd_T46 l0 x8_1).f1) - 1)) - a2)) + a1)) a1) + 1))] 46 (0, 0)) (by (with_reducible repeat (first | refine blk_drewN ?_ _ | refine blk_drew ?_ | refine blk_alloc ?_ _)); refine blk_put (cs := #[.bool true, .int .i64 ((rd_T46 l0 x8_1).f1)]) ?_ 1 _ rfl; (with_reducible repeat (first | refine blk_drewN ?_ _ | refine blk_drew ?_ | refine blk_alloc ?_ _)); refine blk_put (cs := #[.bool true, .int .i64 0]) ?_ 1 _ rfl; (with_reducible repeat (first | refine blk_drewN ?_ _ | refine blk_drew ?_ | refine blk_alloc ?_ _)); refine blk_put (cs := #[.bool false, .int .i64 0]) ?_ 0 _ rfl; (with_reducible repeat (first | refine blk_drewN ?_ _ | refine blk_drew ?_ | refine blk_alloc ?_ _)); exact BK487.out) hg (Kd.R_away HO_7.out (fun _ hk => hk.2))); have n1_ := Aside0.mk (hb); have n2_ := Aside0.mk (ho); clear BK487; clear HB; clear HO_7; have BK487 := n0_; have HB := n1_; have HO490 := n2_; clear n0_ n1_ n2_; clear ho hb hg hat))
                  go_roundg k1
                  case measure => have := HK1.out; omega
                  case rel => exact ⟨(y488), (wrap64 (x8_1 + 1)), (by first | rfl | (simp; done) | (simp [*]; done)), H', ⟨by have := HK1.out; omega⟩, ⟨by (with_reducible repeat (first | apply Kd.R_alloc | apply Kd.R_drewN | apply Kd.R_drew)); exact Kd.R_mono HO490.out (fun _ hk => trivial)⟩, ⟨by repeat (first | (with_reducible first | exact HB.out | apply below_alloc | apply pw_below_drewN | apply below_drew1 | refine below_set ?_ GE487.out) | exact HB.out)⟩⟩
                · rw [if_neg c12] at H
                  exact absurd H (by simp)
            · rw [if_neg c10] at H
              have c10b0 : decide (0 < ((rd_T46 l0 x8_1).f1)) = false := decide_eq_false c10
              clear c10
              by_cases c16 : x7_1.length < 8796093022208
              · rw [if_pos c16] at H
                have LMc16 := Aside0.mk c16
                clear c16
                obtain ⟨y491, hy491⟩ : ∃ y_ : List (S46), y_ = (x7_1 ++ [(⟨true, (rd_T46 l0 x8_1).f1⟩ : S46)]) := ⟨_, rfl⟩
                replace H : (laws_leTurn.l0 k1 l0 a1 a2 y491 (wrap64 (x8_1 + 1))) = some r := by first | (rw [hy491]; with_reducible exact H) | (have H2_ := (Option.bind_some _ _).symm.trans H; rw [hy491]; with_reducible exact H2_) | (have H2_ := (Option.bind_some _ _).symm.trans H; with_reducible exact H2_) | with_reducible exact H | (rw [hy491]; exact H) | exact H
                have Ny491 := Aside0.mk hy491
                clear hy491
                have H' := Aside0.mk H
                clear H
                have p486 : 0 ≤ (x8_1 : Int) := of_decide_eq_true (by first | (with_reducible assumption) | assumption)
                have q486 : x8_1 < (l0.length : Int) := of_decide_eq_true (by first | (with_reducible assumption) | assumption)
                obtain ⟨ad486, e486, hx486_0, hx486_1⟩ := at_T46 HR0.out x8_1 p486 q486
                (try rw [← Nbq8.out] at hx486_0)
                cases e486
                replace hx486_0 := (HB.out.cell (World.block_lt_of_cell? w _ hx486_0)).trans hx486_0
                replace hx486_1 := (HB.out.cell (World.block_lt_of_cell? w _ hx486_1)).trans hx486_1
                replace p486 := eq_true p486
                replace q486 := eq_true q486
                go_wp2_with (first | ((with_reducible refine gate_dst (N := 9) rfl ?_); refine box_event ?hg (N := 9) ?hd (cs := #[.bool false, .int .i64 0]) (t := 46) ?hr ?_; (case hd => rfl); (case hg => rfl); (case hr => first | (go_simp; done) | (go_simp; rfl)); intro gb487 hg w17 hbox hb; have n0_ := Aside0.mk (Kd.R_below (Kd.R_elderB (by (with_reducible repeat (first | apply Kd.R_alloc | apply Kd.R_drewN | apply Kd.R_drew)); exact HO_7.out) gb487 (Nat.le_of_eq hg.symm)) hb); have n1_ := Aside0.mk (below_step (by repeat (first | (with_reducible first | exact HB.out | apply below_alloc | apply pw_below_drewN | apply below_drew1) | exact HB.out)) hb); have n2_ := Aside0.mk (hbox); have n3_ := Aside0.mk ((by rw [hg]; exact (below_size (by repeat (first | (with_reducible first | exact HB.out | apply below_alloc | apply pw_below_drewN | apply below_drew1) | exact HB.out))) : w.heap.size ≤ gb487)); have n4_ := Aside0.mk ((by rw [hg]; exact (below_size (by repeat (first | (with_reducible first | exact HB.out | apply below_alloc | apply pw_below_drewN | apply below_drew1) | exact HB.out))) : w.heap.size ≤ gb487)); clear HO_7; clear HB; have HO_7 := n0_; have HB := n1_; have BK487 := n2_; have GW487 := n3_; have GE487 := n4_; clear n0_ n1_ n2_ n3_ n4_; clear hb hbox hg; have hcz18_0 : w17.cell? ⟨gb487, 0, none⟩ = some (.bool false) := (blk_cell BK487.out 0).trans rfl; have hcz18_1 : w17.cell? ⟨gb487, 1, none⟩ = some (.int .i64 0) := (blk_cell BK487.out 1).trans rfl; have hfz18_0 := blk_frozen BK487.out 0; have hfz18_1 := blk_frozen BK487.out 1) | ((with_reducible refine gate_builtin (b := .append) (xs := #[.tmp 39, .tmp 41]) rfl ?_); at_builtin; refine Kd.R_append k46 (w0 := w) w.heap.size rfl (.tmp 39) (.tmp 41) 35 46 (.agg #[(.bool false), (.int .i64 0)]) 16 rfl Try.underlying35 info46 rfl (by decide) (by omega) u7 x7_1 (⟨true, (rd_T46 l0 x8_1).f1⟩ : S46) [.bool true, .int .i64 ((rd_T46 l0 x8_1).f1)] (fun k_ => k_ ≠ gb487) (fun _ => False) rfl (by first | (go_simp; done) | (go_simp; rfl)) ?aP (fun _ hk => hk.elim) ?aF ?aO ?aB ?aS ?aL ?_; (case aP => exact k46_mkM _ _ _ (⟨true, (rd_T46 l0 x8_1).f1⟩ : S46)); (case aB => exact (by repeat (first | (with_reducible first | exact HB.out | apply below_alloc | apply pw_below_drewN | apply below_drew1 | refine below_set ?_ GE487.out) | exact HB.out))); (case aF => exact (fun k_ hk => Kd.freshB (g := gb487) (o := .cells #[.bool true, .int .i64 ((rd_T46 l0 x8_1).f1)] 46 (0, 0)) (by (with_reducible repeat (first | refine blk_drewN ?_ _ | refine blk_drew ?_ | refine blk_alloc ?_ _)); refine blk_put (cs := #[.bool true, .int .i64 0]) ?_ 1 _ rfl; (with_reducible repeat (first | refine blk_drewN ?_ _ | refine blk_drew ?_ | refine blk_alloc ?_ _)); refine blk_put (cs := #[.bool false, .int .i64 0]) ?_ 0 _ rfl; (with_reducible repeat (first | refine blk_drewN ?_ _ | refine blk_drew ?_ | refine blk_alloc ?_ _)); exact BK487.out) k_ hk)); (case aO => exact (by (with_reducible repeat (first | apply Kd.R_alloc | apply Kd.R_drewN | apply Kd.R_drew)); exact Kd.R_mono (Kd.R_far (p := ⟨gb487, 1, none⟩) (Kd.R_far (p := ⟨gb487, 0, none⟩) (Kd.R_mono HO_7.out (fun k_ hk => (⟨hk, hk.2⟩ : _ ∧ k_ ≠ gb487))) (fun _ hk => hk.2) (.bool true)) (fun _ hk => hk.2) (.int .i64 ((rd_T46 l0 x8_1).f1))) (fun _ hk => hk.1.2))); (case aS => exact (below_size (by repeat (first | (with_reducible first | exact HB.out | apply below_alloc | apply pw_below_drewN | apply below_drew1 | refine below_set ?_ GE487.out) | exact HB.out)))); (case aL => have := LMc16.out; omega); intro v492 w19 ho hb hg hat; rw [← Ny491.out] at ho; have n0_ := Aside0.mk (blk_grown (g := gb487) (o := .cells #[.bool true, .int .i64 ((rd_T46 l0 x8_1).f1)] 46 (0, 0)) (by (with_reducible repeat (first | refine blk_drewN ?_ _ | refine blk_drew ?_ | refine blk_alloc ?_ _)); refine blk_put (cs := #[.bool true, .int .i64 0]) ?_ 1 _ rfl; (with_reducible repeat (first | refine blk_drewN ?_ _ | refine blk_drew ?_ | refine blk_alloc ?_ _)); refine blk_put (cs := #[.bool false, .int .i64 0]) ?_ 0 _ rfl; (with_reducible repeat (first | refine blk_drewN ?_ _ | refine blk_drew ?_ | refine blk_alloc ?_ _)); exact BK487.out) hg (Kd.R_away HO_7.out (fun _ hk => hk.2))); have n1_ := Aside0.mk (hb); have n2_ := Aside0.mk (ho); clear BK487; clear HB; clear HO_7; have BK487 := n0_; have HB := n1_; have HO493 := n2_; clear n0_ n1_ n2_; clear ho hb hg hat))
                go_roundg k1
                case measure => have := HK1.out; omega
                case rel => exact ⟨(y491), (wrap64 (x8_1 + 1)), (by first | rfl | (simp; done) | (simp [*]; done)), H', ⟨by have := HK1.out; omega⟩, ⟨by (with_reducible repeat (first | apply Kd.R_alloc | apply Kd.R_drewN | apply Kd.R_drew)); exact Kd.R_mono HO493.out (fun _ hk => trivial)⟩, ⟨by repeat (first | (with_reducible first | exact HB.out | apply below_alloc | apply pw_below_drewN | apply below_drew1 | refine below_set ?_ GE487.out) | exact HB.out)⟩⟩
              · rw [if_neg c16] at H
                exact absurd H (by simp)
          · replace c9 := Bool.eq_false_iff.mpr c9
            subst c9
            have H1 : (if x7_1.length < 8796093022208 then (laws_leTurn.l0 k1 l0 a1 a2 (x7_1 ++ [(⟨false, (rd_T46 l0 x8_1).f1⟩ : S46)]) (wrap64 (x8_1 + 1))) else (none)) = some r := by rw [if_neg (show ¬ (false = true) by decide)] at H; exact H
            clear H
            have H := H1
            clear H1
            by_cases c20 : x7_1.length < 8796093022208
            · rw [if_pos c20] at H
              have LMc20 := Aside0.mk c20
              clear c20
              obtain ⟨y494, hy494⟩ : ∃ y_ : List (S46), y_ = (x7_1 ++ [(⟨false, (rd_T46 l0 x8_1).f1⟩ : S46)]) := ⟨_, rfl⟩
              replace H : (laws_leTurn.l0 k1 l0 a1 a2 y494 (wrap64 (x8_1 + 1))) = some r := by first | (rw [hy494]; with_reducible exact H) | (have H2_ := (Option.bind_some _ _).symm.trans H; rw [hy494]; with_reducible exact H2_) | (have H2_ := (Option.bind_some _ _).symm.trans H; with_reducible exact H2_) | with_reducible exact H | (rw [hy494]; exact H) | exact H
              have Ny494 := Aside0.mk hy494
              clear hy494
              have H' := Aside0.mk H
              clear H
              have p486 : 0 ≤ (x8_1 : Int) := of_decide_eq_true (by first | (with_reducible assumption) | assumption)
              have q486 : x8_1 < (l0.length : Int) := of_decide_eq_true (by first | (with_reducible assumption) | assumption)
              obtain ⟨ad486, e486, hx486_0, hx486_1⟩ := at_T46 HR0.out x8_1 p486 q486
              (try rw [← Nbq8.out] at hx486_0)
              cases e486
              replace hx486_0 := (HB.out.cell (World.block_lt_of_cell? w _ hx486_0)).trans hx486_0
              replace hx486_1 := (HB.out.cell (World.block_lt_of_cell? w _ hx486_1)).trans hx486_1
              replace p486 := eq_true p486
              replace q486 := eq_true q486
              go_wp2_with (first | ((with_reducible refine gate_dst (N := 9) rfl ?_); refine box_event ?hg (N := 9) ?hd (cs := #[.bool false, .int .i64 0]) (t := 46) ?hr ?_; (case hd => rfl); (case hg => rfl); (case hr => first | (go_simp; done) | (go_simp; rfl)); intro gb487 hg w21 hbox hb; have n0_ := Aside0.mk (Kd.R_below (Kd.R_elderB (by (with_reducible repeat (first | apply Kd.R_alloc | apply Kd.R_drewN | apply Kd.R_drew)); exact HO_7.out) gb487 (Nat.le_of_eq hg.symm)) hb); have n1_ := Aside0.mk (below_step (by repeat (first | (with_reducible first | exact HB.out | apply below_alloc | apply pw_below_drewN | apply below_drew1) | exact HB.out)) hb); have n2_ := Aside0.mk (hbox); have n3_ := Aside0.mk ((by rw [hg]; exact (below_size (by repeat (first | (with_reducible first | exact HB.out | apply below_alloc | apply pw_below_drewN | apply below_drew1) | exact HB.out))) : w.heap.size ≤ gb487)); have n4_ := Aside0.mk ((by rw [hg]; exact (below_size (by repeat (first | (with_reducible first | exact HB.out | apply below_alloc | apply pw_below_drewN | apply below_drew1) | exact HB.out))) : w.heap.size ≤ gb487)); clear HO_7; clear HB; have HO_7 := n0_; have HB := n1_; have BK487 := n2_; have GW487 := n3_; have GE487 := n4_; clear n0_ n1_ n2_ n3_ n4_; clear hb hbox hg; have hcz22_0 : w21.cell? ⟨gb487, 0, none⟩ = some (.bool false) := (blk_cell BK487.out 0).trans rfl; have hcz22_1 : w21.cell? ⟨gb487, 1, none⟩ = some (.int .i64 0) := (blk_cell BK487.out 1).trans rfl; have hfz22_0 := blk_frozen BK487.out 0; have hfz22_1 := blk_frozen BK487.out 1) | ((with_reducible refine gate_builtin (b := .append) (xs := #[.tmp 39, .tmp 41]) rfl ?_); at_builtin; refine Kd.R_append k46 (w0 := w) w.heap.size rfl (.tmp 39) (.tmp 41) 35 46 (.agg #[(.bool false), (.int .i64 0)]) 16 rfl Try.underlying35 info46 rfl (by decide) (by omega) u7 x7_1 (⟨false, (rd_T46 l0 x8_1).f1⟩ : S46) [.bool false, .int .i64 ((rd_T46 l0 x8_1).f1)] (fun k_ => k_ ≠ gb487) (fun _ => False) rfl (by first | (go_simp; done) | (go_simp; rfl)) ?aP (fun _ hk => hk.elim) ?aF ?aO ?aB ?aS ?aL ?_; (case aP => exact k46_mkM _ _ _ (⟨false, (rd_T46 l0 x8_1).f1⟩ : S46)); (case aB => exact (by repeat (first | (with_reducible first | exact HB.out | apply below_alloc | apply pw_below_drewN | apply below_drew1 | refine below_set ?_ GE487.out) | exact HB.out))); (case aF => exact (fun k_ hk => Kd.freshB (g := gb487) (o := .cells #[.bool false, .int .i64 ((rd_T46 l0 x8_1).f1)] 46 (0, 0)) (by (with_reducible repeat (first | refine blk_drewN ?_ _ | refine blk_drew ?_ | refine blk_alloc ?_ _)); refine blk_put (cs := #[.bool false, .int .i64 0]) ?_ 1 _ rfl; (with_reducible repeat (first | refine blk_drewN ?_ _ | refine blk_drew ?_ | refine blk_alloc ?_ _)); refine blk_put (cs := #[.bool false, .int .i64 0]) ?_ 0 _ rfl; (with_reducible repeat (first | refine blk_drewN ?_ _ | refine blk_drew ?_ | refine blk_alloc ?_ _)); exact BK487.out) k_ hk)); (case aO => exact (by (with_reducible repeat (first | apply Kd.R_alloc | apply Kd.R_drewN | apply Kd.R_drew)); exact Kd.R_mono (Kd.R_far (p := ⟨gb487, 1, none⟩) (Kd.R_far (p := ⟨gb487, 0, none⟩) (Kd.R_mono HO_7.out (fun k_ hk => (⟨hk, hk.2⟩ : _ ∧ k_ ≠ gb487))) (fun _ hk => hk.2) (.bool false)) (fun _ hk => hk.2) (.int .i64 ((rd_T46 l0 x8_1).f1))) (fun _ hk => hk.1.2))); (case aS => exact (below_size (by repeat (first | (with_reducible first | exact HB.out | apply below_alloc | apply pw_below_drewN | apply below_drew1 | refine below_set ?_ GE487.out) | exact HB.out)))); (case aL => have := LMc20.out; omega); intro v495 w23 ho hb hg hat; rw [← Ny494.out] at ho; have n0_ := Aside0.mk (blk_grown (g := gb487) (o := .cells #[.bool false, .int .i64 ((rd_T46 l0 x8_1).f1)] 46 (0, 0)) (by (with_reducible repeat (first | refine blk_drewN ?_ _ | refine blk_drew ?_ | refine blk_alloc ?_ _)); refine blk_put (cs := #[.bool false, .int .i64 0]) ?_ 1 _ rfl; (with_reducible repeat (first | refine blk_drewN ?_ _ | refine blk_drew ?_ | refine blk_alloc ?_ _)); refine blk_put (cs := #[.bool false, .int .i64 0]) ?_ 0 _ rfl; (with_reducible repeat (first | refine blk_drewN ?_ _ | refine blk_drew ?_ | refine blk_alloc ?_ _)); exact BK487.out) hg (Kd.R_away HO_7.out (fun _ hk => hk.2))); have n1_ := Aside0.mk (hb); have n2_ := Aside0.mk (ho); clear BK487; clear HB; clear HO_7; have BK487 := n0_; have HB := n1_; have HO496 := n2_; clear n0_ n1_ n2_; clear ho hb hg hat))
              go_roundg k1
              case measure => have := HK1.out; omega
              case rel => exact ⟨(y494), (wrap64 (x8_1 + 1)), (by first | rfl | (simp; done) | (simp [*]; done)), H', ⟨by have := HK1.out; omega⟩, ⟨by (with_reducible repeat (first | apply Kd.R_alloc | apply Kd.R_drewN | apply Kd.R_drew)); exact Kd.R_mono HO496.out (fun _ hk => trivial)⟩, ⟨by repeat (first | (with_reducible first | exact HB.out | apply below_alloc | apply pw_below_drewN | apply below_drew1 | refine below_set ?_ GE487.out) | exact HB.out)⟩⟩
            · rw [if_neg c20] at H
              exact absurd H (by simp)
        · rw [if_neg c7] at H
          exact absurd H (by simp)
      · rw [if_neg c6] at H
        have c6b0 : decide (x8_1 < (l0.length : Int)) = false := decide_eq_false c6
        clear c6
        obtain rfl := Option.some.inj H
        simp only [Option.some.injEq, Prod.mk.injEq] at H
        obtain ⟨rfl⟩ := H
        go_wp2
        go_ret
        exact ⟨_, by first | rfl | (simp [errW_none, errW_some] <;> rfl) | (simp [*, errW_none, errW_some] <;> rfl), by (with_reducible repeat (first | apply Kd.R_alloc | apply Kd.R_drewN | apply Kd.R_drew)); exact HO_7.out, by repeat (first | (with_reducible first | exact HB.out | apply below_alloc | apply pw_below_drewN | apply below_drew1) | exact HB.out)⟩
end Go.Proofs.Yteeakklnlcjgbaa.P

end
section

namespace Go.Proofs.Yteeakklnlcjgbaa.P
open Go.RowKit Go.Proofs.YteeakklnlcjgbaaW.PrintWords Go.Proofs.YteeakklnlcjgbaaW.PrintLast Go.Proofs.YteeakklnlcjgbaaW.PrintMore
attribute [local go_sem] max2_int min2_int max_two min_two max_three min_three max_four min_four
set_option linter.unusedVariables false
set_option linter.unusedSimpArgs false
def laws_leTurned.T7 : Bool × List (List Nat × List Nat) := (true, [([], []), ([], []), ([1], [1]), ([], []), ([3], [3]), ([], []), ([], []), ([4, 5, 6], [4, 5, 6]), ([2, 7], [2, 7]), ([8], [8]), ([0, 9, 7], [0, 9]), ([10, 10, 0, 1, 2, 3, 4, 5, 6, 7, 8, 9, 10], [0, 10])])
def laws_leTurned.B7 : List Nat := [0, 0, 2, 0, 8, 0, 0, 120, 254, 510, 1023, 2047]
theorem laws_leTurned.tab7 : rtab .any (opsOf Try.f32 7) = laws_leTurned.T7 := by kernel_rfl
theorem laws_leTurned.bits7 : waitsOk laws_leTurned.T7.2 laws_leTurned.B7 = true := by kernel_rfl
set_option maxHeartbeats 8000000 in
set_option maxRecDepth 100000 in
theorem laws_leTurned.calls (k : Nat) (A0 : Option Addr) (c0 : Nat) (l0 : List (S48)) (A1 : Option Addr) (c1 : Nat) (l1 : List (S46)) (a2 : Int) (r1 : List (S48)) (r2 : List (S46)) (w : World) (hr0 : Kd.C k48 w A0 l0.length l0) (hc0 : l0.length ≤ c0) (hr1 : Kd.C k46 w A1 l1.length l1) (hc1 : l1.length ≤ c1) (h : laws_leTurned.f k l0 l1 a2 = some (r1, r2)) :
    Calls Try.prog 32 #[.slice A0 l0.length c0, .slice A1 l1.length c1, .int .i64 a2] w fun e w' => ∃ v0_ v1_ : Value, e = .returned (.tuple #[v0_, v1_]) ∧ Kd.S k48 48 w' w.heap.size (fun k_ => some k_ ≠ (v1_ : Value).ownBlock) v0_ r1 ∧ Kd.R k46 46 w' w.heap.size (fun _ => True) v1_ r2 ∧ Below w.heap.size w w' := by
  have hu48 := Try.underlying48
  have HR0 := Aside0.mk hr0
  have HC0 := Aside0.mk hc0
  clear hr0 hc0
  have HR1 := Aside0.mk hr1
  have HC1 := Aside0.mk hc1
  clear hr1 hc1
  have HB := Aside0.mk (Below.refl w.heap.size w)
  have H : (laws_leTurned.l0 k l0 l1 a2 (l0.length : Int) (([] : List (S48))) 0) = some (r1, r2) := h
  clear h
  obtain ⟨y497, hy497⟩ : ∃ y_ : List (S48), y_ = (([] : List (S48))) := ⟨_, rfl⟩
  replace H : (laws_leTurned.l0 k l0 l1 a2 (l0.length : Int) y497 0) = some (r1, r2) := by first | (rw [hy497]; with_reducible exact H) | (have H2_ := (Option.bind_some _ _).symm.trans H; rw [hy497]; with_reducible exact H2_) | (have H2_ := (Option.bind_some _ _).symm.trans H; with_reducible exact H2_) | with_reducible exact H | (rw [hy497]; exact H) | exact H
  have Ny497 := Aside0.mk hy497
  clear hy497
  have H' := Aside0.mk H
  clear H
  go_enter Try.func32, Try.ntmps32
  go_wp2_with (first | ((with_reducible refine gate_dst (N := 14) rfl ?_); refine Kd.S_lit k48 _ 48 ?hg (N := 14) ?hd (xs := ([] : List (S48))) (inner := []) (ok := fun _ => True) (okp := fun _ => True) ?hr ?hp (fun _ hk => hk) trivial (Below.refl _ _) (Nat.le_refl _) (by simp) ?_; (case hd => rfl); (case hg => rfl); (case hr => first | (go_simp; done) | (go_simp; rfl)); (case hp => exact (Reps.none _ _)); intro v498 w4 ho5 hb hg_ hnew_; clear hg_ hnew_; (first | rw [← Ny497.out] at ho5 | (simp only [Int.reduceToNat] at ho5; rw [← Ny497.out] at ho5)); have n0_ := Aside0.mk (Kd.S_lower ho5 (below_size (by repeat (first | (with_reducible first | exact HB.out | apply below_alloc | apply pw_below_drewN | apply below_drew1) | exact HB.out)))); have n1_ := Aside0.mk (below_step (by repeat (first | (with_reducible first | exact HB.out | apply below_alloc | apply pw_below_drewN | apply below_drew1) | exact HB.out)) hb); clear HB; have HO499 := n0_; have HB := n1_; clear n0_ n1_; clear hb ho5))
  go_loopg [9, 10] k (fun kq v9 v10 w' => ∃ (x9_1 : List (S48)) (x10_1 : Int), v10 = .int .i64 x10_1 ∧ Aside0 (laws_leTurned.l0 kq l0 l1 a2 (l0.length : Int) x9_1 x10_1 = some (r1, r2)) ∧ Aside0 (kq ≤ k) ∧ Aside0 (Kd.S k48 48 w' w.heap.size (fun _ => True) v9 x9_1) ∧ Aside0 (Below w.heap.size w w'))
  case atStart => exact ⟨(y497), (0), (by first | rfl | (simp; done) | (simp [*]; done)), H', ⟨Nat.le_refl _⟩, ⟨by (with_reducible repeat (first | apply Kd.S_alloc | apply Kd.S_drewN | apply Kd.S_drew)); exact HO499.out⟩, ⟨by repeat (first | (with_reducible first | exact HB.out | apply below_alloc | apply pw_below_drewN | apply below_drew1) | exact HB.out)⟩⟩
  case round =>
    clear H'
    try clear c1
    try clear p2
    try clear c3
    obtain ⟨x9_1, x10_1, rfl, HA, HK1, HO_9, HB⟩ := hrel
    cases gk with
    | zero => exact absurd HA.out (by simp [laws_leTurned.l0])
    | succ k1 =>
      have H := HA.out
      clear HA
      simp only [laws_leTurned.l0] at H
      by_cases c6 : x10_1 < (l0.length : Int)
      · rw [if_pos c6] at H
        have c6b0 : decide (x10_1 < (l0.length : Int)) = true := decide_eq_true c6
        clear c6
        by_cases c7 : (l0.length : Int) = 0
        · rw [if_pos c7] at H
          exact absurd H (by simp)
        · rw [if_neg c7] at H
          have c7b0 : ((l0.length : Int) == 0) = false := beq_eq_false_iff_ne.mpr c7
          have c7b1 : ((l0.length : Int) != 0) = true := bne_iff_ne.mpr c7
          have c7b2 : ¬ (l0 = []) := fun h_ => c7 (by rw [h_]; rfl)
          obtain ⟨ji8, hji8⟩ : ∃ j_ : Int, (Int.tmod (wrap64 (x10_1 + a2)) (l0.length : Int)) = j_ := ⟨_, rfl⟩
          replace H : (if 0 ≤ (ji8) then (if (ji8) < (l0.length : Int) then ((laws_leTurn.f k1 ((rd_T48 l0 (ji8)).f1) (l0.length : Int) a2).bind fun t502 => (if x9_1.length < 4398046511104 then (laws_leTurned.l0 k1 l0 l1 a2 (l0.length : Int) (x9_1 ++ [(⟨(rd_T48 l0 (ji8)).f0, t502⟩ : S48)]) (wrap64 (x10_1 + 1))) else (none))) else (none)) else (none)) = some (r1, r2) := by first | (rw [hji8] at H; exact H) | (simp only [hji8] at H ⊢; exact H)
          by_cases c9 : 0 ≤ (ji8)
          · rw [if_pos c9] at H
            have c9b0 : decide (0 ≤ (ji8)) = true := decide_eq_true c9
            clear c9
            by_cases c10 : (ji8) < (l0.length : Int)
            · rw [if_pos c10] at H
              have c10b0 : decide ((ji8) < (l0.length : Int)) = true := decide_eq_true c10
              clear c10
              replace H := Option.bind_eq_some_iff.mp H
              obtain ⟨t502, A110, H⟩ := H
              replace H : (if x9_1.length < 4398046511104 then (laws_leTurned.l0 k1 l0 l1 a2 (l0.length : Int) (x9_1 ++ [(⟨(rd_T48 l0 (ji8)).f0, t502⟩ : S48)]) (wrap64 (x10_1 + 1))) else (none)) = some (r1, r2) := H
              have A11 := Aside0.mk A110
              clear A110
              by_cases c12 : x9_1.length < 4398046511104
              · rw [if_pos c12] at H
                have LMc12 := Aside0.mk c12
                clear c12
                obtain ⟨y505, hy505⟩ : ∃ y_ : List (S48), y_ = (x9_1 ++ [(⟨(rd_T48 l0 (ji8)).f0, t502⟩ : S48)]) := ⟨_, rfl⟩
                replace H : (laws_leTurned.l0 k1 l0 l1 a2 (l0.length : Int) y505 (wrap64 (x10_1 + 1))) = some (r1, r2) := by first | (rw [hy505]; with_reducible exact H) | (have H2_ := (Option.bind_some _ _).symm.trans H; rw [hy505]; with_reducible exact H2_) | (have H2_ := (Option.bind_some _ _).symm.trans H; with_reducible exact H2_) | with_reducible exact H | (rw [hy505]; exact H) | exact H
                have Ny505 := Aside0.mk hy505
                clear hy505
                have H' := Aside0.mk H
                clear H
                have p500 : 0 ≤ ((ji8) : Int) := of_decide_eq_true (by first | (with_reducible assumption) | assumption)
                have q500 : (ji8) < (l0.length : Int) := of_decide_eq_true (by first | (with_reducible assumption) | assumption)
                obtain ⟨ad500, A500_1, c500_1, e500, hx500_0, hx500_1, hl500_1, hi500_1⟩ := at_T48 HR0.out (ji8) p500 q500
                cases e500
                replace hx500_0 := (HB.out.cell (World.block_lt_of_cell? w _ hx500_0)).trans hx500_0
                replace hx500_1 := (HB.out.cell (World.block_lt_of_cell? w _ hx500_1)).trans hx500_1
                have HR500_1 := Aside0.mk hi500_1
                have HC500_1 := Aside0.mk hl500_1
                clear hi500_1 hl500_1
                replace p500 := eq_true p500
                replace q500 := eq_true q500
                try go_wp2_with (first | ((with_reducible refine gate_dst (N := 11) rfl ?_); refine box_event ?hg (N := 11) ?hd (cs := #[.int .i64 0, .slice none 0 0]) (t := 48) ?hr ?_; (case hd => rfl); (case hg => rfl); (case hr => first | (go_simp; done) | (go_simp; rfl)); intro gb501 hg w13 hbox hb; have n0_ := Aside0.mk (Kd.S_below (Kd.S_elderB (by (with_reducible repeat (first | apply Kd.S_alloc | apply Kd.S_drewN | apply Kd.S_drew)); exact HO_9.out) gb501 (Nat.le_of_eq hg.symm)) hb); have n1_ := Aside0.mk (below_step (by repeat (first | (with_reducible first | exact HB.out | apply below_alloc | apply pw_below_drewN | apply below_drew1) | exact HB.out)) hb); have n2_ := Aside0.mk (hbox); have n3_ := Aside0.mk ((by rw [hg]; exact (below_size (by repeat (first | (with_reducible first | exact HB.out | apply below_alloc | apply pw_below_drewN | apply below_drew1) | exact HB.out))) : w.heap.size ≤ gb501)); have n4_ := Aside0.mk ((by rw [hg]; exact (below_size (by repeat (first | (with_reducible first | exact HB.out | apply below_alloc | apply pw_below_drewN | apply below_drew1) | exact HB.out))) : w.heap.size ≤ gb501)); clear HO_9; clear HB; have HO_9 := n0_; have HB := n1_; have BK501 := n2_; have GW501 := n3_; have GE501 := n4_; clear n0_ n1_ n2_ n3_ n4_; clear hb hbox hg; have hcz14_0 : w13.cell? ⟨gb501, 0, none⟩ = some (.int .i64 0) := (blk_cell BK501.out 0).trans rfl; have hcz14_1 : w13.cell? ⟨gb501, 1, none⟩ = some (.slice none 0 0) := (blk_cell BK501.out 1).trans rfl; have hfz14_0 := blk_frozen BK501.out 0; have hfz14_1 := blk_frozen BK501.out 1))
                have n0_ : Aside0 (Kd.S k48 48 ((w13.setCell ⟨gb501, 0, none⟩ (.int .i64 ((rd_T48 l0 (ji8)).f0))).setCell ⟨gb501, 1, none⟩ (.slice A500_1 ((rd_T48 l0 (ji8)).f1).length c500_1)) w.heap.size (fun k_ => k_ ≠ gb501) u9 x9_1) := ⟨by (with_reducible repeat (first | apply Kd.S_alloc | apply Kd.S_drewN | apply Kd.S_drew)); exact Kd.S_mono (Kd.S_far (p := ⟨gb501, 1, none⟩) (Kd.S_far (p := ⟨gb501, 0, none⟩) (Kd.S_mono HO_9.out (fun k_ hk => (⟨hk, hk.2⟩ : _ ∧ k_ ≠ gb501))) (fun _ hk => hk.2) (.int .i64 ((rd_T48 l0 (ji8)).f0))) (fun _ hk => hk.2) (.slice A500_1 ((rd_T48 l0 (ji8)).f1).length c500_1)) (fun _ hk => hk.1.2)⟩
                have n1_ : Aside0 (((w13.setCell ⟨gb501, 0, none⟩ (.int .i64 ((rd_T48 l0 (ji8)).f0))).setCell ⟨gb501, 1, none⟩ (.slice A500_1 ((rd_T48 l0 (ji8)).f1).length c500_1)).heap[gb501]? = some (.cells #[.int .i64 ((rd_T48 l0 (ji8)).f0), .slice A500_1 ((rd_T48 l0 (ji8)).f1).length c500_1] 48 (0, 0))) := ⟨by (with_reducible repeat (first | refine blk_drewN ?_ _ | refine blk_drew ?_ | refine blk_alloc ?_ _)); refine blk_put (cs := #[.int .i64 ((rd_T48 l0 (ji8)).f0), .slice none 0 0]) ?_ 1 _ rfl; (with_reducible repeat (first | refine blk_drewN ?_ _ | refine blk_drew ?_ | refine blk_alloc ?_ _)); refine blk_put (cs := #[.int .i64 0, .slice none 0 0]) ?_ 0 _ rfl; (with_reducible repeat (first | refine blk_drewN ?_ _ | refine blk_drew ?_ | refine blk_alloc ?_ _)); exact BK501.out⟩
                have n2_ : Aside0 (Below w.heap.size w ((w13.setCell ⟨gb501, 0, none⟩ (.int .i64 ((rd_T48 l0 (ji8)).f0))).setCell ⟨gb501, 1, none⟩ (.slice A500_1 ((rd_T48 l0 (ji8)).f1).length c500_1))) := ⟨by repeat (first | (with_reducible first | exact HB.out | apply below_alloc | apply pw_below_drewN | apply below_drew1 | refine below_set ?_ GE501.out) | exact HB.out)⟩
                (try clear HO_9)
                (try clear BK501)
                (try clear HB)
                generalize ((w13.setCell ⟨gb501, 0, none⟩ (.int .i64 ((rd_T48 l0 (ji8)).f0))).setCell ⟨gb501, 1, none⟩ (.slice A500_1 ((rd_T48 l0 (ji8)).f1).length c500_1)) = w15 at n0_ n1_ n2_ ⊢
                have HO_9 := n0_
                have BK501 := n1_
                have HB := n2_
                clear n0_ n1_ n2_
                have n0_ := Aside0.mk (Kd.S_drew HO_9.out)
                have n1_ := Aside0.mk (blk_drew BK501.out)
                have n2_ := Aside0.mk (below_drew1 HB.out)
                clear HO_9
                clear BK501
                clear HB
                have HO_9 := n0_
                have BK501 := n1_
                have HB := n2_
                clear n0_ n1_ n2_
                refine start_ (n := 12) (S := fun w' => w'.cell? ⟨gb501, 0, none⟩ = some (.int .i64 ((rd_T48 l0 (ji8)).f0)) ∧ w'.cell? ⟨gb501, 1, none⟩ = some (.slice A500_1 ((rd_T48 l0 (ji8)).f1).length c500_1)) (ds := []) #[false, false, false, false, false, false, false, false, false, false, false, false] (by kernel_rfl) rfl rfl ⟨(blk_cell BK501.out 0).trans rfl, (blk_cell BK501.out 1).trans rfl⟩ (fun hHeld => ?_); refine with_tabW laws_leTurned.tab7 laws_leTurned.bits7 (fun HT_ HW_ => ?_)
                generalize w15.drew = w16 at HO_9 BK501 HB hHeld ⊢
                refine pure_ (i := 0) (N := some 28) (v := ?_) (a' := ?_) #[true, false, false, false, false, false, false, false, false, false, false, false] rfl rfl (any_of HT_.out (by kernel_rfl)) (fun _ _ _ h => h) (Or.inl ⟨by rfl, ?_⟩) ?_ ?_
                rotate_left
                · intro w'
                  go_simp
                  with_reducible rfl
                rotate_left
                · simp only [Act.put, List.setIfInBounds_toArray, List.set_cons_zero, List.set_cons_succ, i64_w, i32_w]
                  rfl
                refine pure_ (i := 1) (N := some 29) (v := ?_) (a' := ?_) #[true, true, false, false, false, false, false, false, false, false, false, false] rfl rfl (any_of HT_.out (by kernel_rfl)) (fun _ _ _ h => h) (Or.inl ⟨by rfl, ?_⟩) ?_ ?_
                rotate_left
                · intro w'
                  go_simp
                  with_reducible rfl
                rotate_left
                · simp only [Act.put, List.setIfInBounds_toArray, List.set_cons_zero, List.set_cons_succ, i64_w, i32_w]
                  rfl
                refine pure_ (i := 3) (N := some 31) (v := ?_) (a' := ?_) #[true, true, false, true, false, false, false, false, false, false, false, false] rfl rfl (any_of HT_.out (by kernel_rfl)) (fun _ _ _ h => h) (Or.inl ⟨by rfl, ?_⟩) ?_ ?_
                rotate_left
                · intro w'
                  go_simp
                  with_reducible rfl
                rotate_left
                · simp only [Act.put, List.setIfInBounds_toArray, List.set_cons_zero, List.set_cons_succ, i64_w, i32_w]
                  rfl
                refine pure_ (i := 5) (N := some 33) (v := ?_) (a' := ?_) #[true, true, false, true, false, true, false, false, false, false, false, false] rfl rfl (any_of HT_.out (by kernel_rfl)) (fun _ _ _ h => h) (Or.inl ⟨by rfl, ?_⟩) ?_ ?_
                rotate_left
                · intro w'
                  go_simp
                  with_reducible rfl
                rotate_left
                · simp only [Act.put, List.setIfInBounds_toArray, List.set_cons_zero, List.set_cons_succ, i64_w, i32_w]
                  rfl
                refine pure_ (i := 6) (N := some 34) (v := ?_) (a' := ?_) #[true, true, false, true, false, true, true, false, false, false, false, false] rfl rfl (any_of HT_.out (by kernel_rfl)) (fun _ _ _ h => h) (Or.inl ⟨by rfl, ?_⟩) ?_ ?_
                rotate_left
                · intro w'
                  go_simp
                  with_reducible rfl
                rotate_left
                · simp only [Act.put, List.setIfInBounds_toArray, List.set_cons_zero, List.set_cons_succ, i64_w, i32_w]
                  rfl
                refine take_ (i := 2) (N := some 30) (v := ?_) (a' := ?_) #[true, true, true, true, false, true, true, false, false, false, false, false] rfl rfl (take_ofW HT_.out HW_.out (by kernel_rfl)) (fun _ _ _ h => h) (Or.inl ⟨by rfl, ?_⟩) hHeld ?_ ?_
                rotate_left
                · rintro w' ⟨s0, s1⟩
                  go_simp
                  with_reducible rfl
                rotate_left
                · simp only [Act.put, List.setIfInBounds_toArray, List.set_cons_zero, List.set_cons_succ, i64_w, i32_w]
                  rfl
                refine take_ (i := 4) (N := some 32) (v := ?_) (a' := ?_) #[true, true, true, true, true, true, true, false, false, false, false, false] rfl rfl (take_ofW HT_.out HW_.out (by kernel_rfl)) (fun _ _ _ h => h) (Or.inl ⟨by rfl, ?_⟩) hHeld ?_ ?_
                rotate_left
                · rintro w' ⟨s0, s1⟩
                  go_simp
                  with_reducible rfl
                rotate_left
                · simp only [Act.put, List.setIfInBounds_toArray, List.set_cons_zero, List.set_cons_succ, i64_w, i32_w]
                  rfl
                refine one_ (i := 7) (N := some 35) #[true, true, true, true, true, true, true, true, false, false, false, false] rfl rfl (one_of HT_.out (by kernel_rfl)) (by decide) (fun K hK => ?_)
                refine goes_ Try.func46 (by kernel_rfl) rfl #[.slice A500_1 ((rd_T48 l0 (ji8)).f1).length c500_1, .int .i64 (l0.length : Int), .int .i64 a2] (by rfl) rfl rfl (by (try simp only [List.map_toArray, List.map_cons, List.map_nil]); first | done | (simp only [hji8]; rfl) | rfl | (simp only [List.length_drop, List.length_take]; rfl)) ?_
                with_reducible refine (laws_leTurn.calls k1 _ _ ((rd_T48 l0 (ji8)).f1) (l0.length : Int) a2 t502 _ ?side1 ?side2 A11.out).mono ?_
                (case side1 => repeat (first | exact (Kd.C_below HR500_1.out HB.out) | (with_reducible refine Kd.C_alloc ?_ _) | (with_reducible refine Kd.C_drewN ?_ _) | (with_reducible refine Kd.C_drew ?_)))
                (case side2 => exact HC500_1.out)
                rintro e w17 ⟨v503, rfl, ho0, hb⟩
                refine ⟨_, rfl, ?_⟩
                have n0_ := Aside0.mk (Kd.S_elder' (by (with_reducible repeat (first | apply Kd.S_alloc | apply Kd.S_drewN | apply Kd.S_drew)); exact HO_9.out) (Kd.R_base ho0) hb)
                have n1_ := Aside0.mk (Kd.R_lower ho0 (below_size (by repeat (first | (with_reducible first | exact HB.out | apply below_alloc | apply pw_below_drewN | apply below_drew1 | refine below_set ?_ GE501.out) | exact HB.out))))
                have n2_ := Aside0.mk (blk_below (g := gb501) (o := .cells #[.int .i64 ((rd_T48 l0 (ji8)).f0), .slice A500_1 ((rd_T48 l0 (ji8)).f1).length c500_1] 48 (0, 0)) (by (with_reducible repeat (first | refine blk_drewN ?_ _ | refine blk_drew ?_ | refine blk_alloc ?_ _)); exact BK501.out) hb)
                have n3_ := Aside0.mk (below_step (by repeat (first | (with_reducible first | exact HB.out | apply below_alloc | apply pw_below_drewN | apply below_drew1 | refine below_set ?_ GE501.out) | exact HB.out)) hb)
                clear HO_9
                clear BK501
                clear HB
                have HO_9 := n0_
                have HO504 := n1_
                have BK501 := n2_
                have HB := n3_
                clear n0_ n1_ n2_ n3_
                (try clear hb)
                (try clear hb2)
                (try clear hk)
                (try clear hi)
                (try clear ho0)
                obtain ⟨Ao18, co18, eo18⟩ := Kd.R_slice HO504.out
                (first | subst eo18 | (injection eo18 with f1_ f2_ f3_; have f4_ := f1_.symm; have f5_ := f3_.symm; clear f1_ f2_ f3_; subst f4_; subst f5_))
                refine hK.out _ _ ⟨(blk_cell BK501.out 0).trans rfl, (blk_cell BK501.out 1).trans rfl⟩ (fun hHeld => ?_)
                clear hK K
                refine norm_ (a' := ?_) ?_ ?_
                rotate_left
                · show Act.put _ (some 35) _ = _
                  simp only [Act.put, List.setIfInBounds_toArray, List.set_cons_zero, List.set_cons_succ, i64_w, i32_w]
                  rfl
                refine pure_ (i := 8) (N := some 36) (v := ?_) (a' := ?_) #[true, true, true, true, true, true, true, true, true, false, false, false] rfl rfl (any_of HT_.out (by kernel_rfl)) (fun _ _ _ h => h) (Or.inl ⟨by rfl, ?_⟩) ?_ ?_
                rotate_left
                · intro w'
                  go_simp
                  with_reducible rfl
                rotate_left
                · simp only [Act.put, List.setIfInBounds_toArray, List.set_cons_zero, List.set_cons_succ, i64_w, i32_w]
                  rfl
                refine one_ (i := 9) (N := some 37) #[true, true, true, true, true, true, true, true, true, true, false, false] rfl rfl (one_of HT_.out (by kernel_rfl)) (by decide) (fun K hK => ?_)
                refine value_ (w1 := ?_) (v := ?_) (by rfl) rfl ?_ ?_
                rotate_left 2
                · go_simp
                  constructor
                  · rfl
                  · rfl
                refine hK.out _ _ ⟨(blk_cell (blk_alloc BK501.out _) 0).trans rfl, (blk_cell (blk_alloc BK501.out _) 1).trans rfl⟩ (fun hHeld => ?_)
                clear hK K
                refine norm_ (a' := ?_) ?_ ?_
                rotate_left
                · show Act.put _ (some 37) _ = _
                  simp only [Act.put, List.setIfInBounds_toArray, List.set_cons_zero, List.set_cons_succ, i64_w, i32_w]
                  rfl
                refine one_ (i := 10) (N := some 38) #[true, true, true, true, true, true, true, true, true, true, true, false] rfl rfl (one_of HT_.out (by kernel_rfl)) (by decide) (fun K hK => ?_)
                refine Kd.S_append_step k48 (w0 := w) w.heap.size (by rfl) (.tmp 28) (.tmp 37) 33 48 (.agg #[(.int .i64 0), (.slice none 0 0)]) 32 rfl Try.underlying33 info48 rfl (by decide) (by omega) u9 x9_1 (⟨(rd_T48 l0 (ji8)).f0, t502⟩ : S48) [.int .i64 ((rd_T48 l0 (ji8)).f0), .slice Ao18 t502.length co18] (fun k_ => k_ ≠ gb501) (fun k_ => some k_ = (.slice Ao18 t502.length co18 : Value).ownBlock) rfl rfl ?aP (fun k_ hk_ => ((Kd.R_mono (ok' := fun k_ => ((fun k_ => k_ ≠ gb501)) k_ ∧ some k_ ≠ (u9 : Value).ownBlock) (Kd.R_types (Kd.R_apart' (HO504.out) (Kd.S_typed HO_9.out) (by decide)) BK501.out (by decide)) (fun k_ hk => ⟨hk.2, hk.1.2⟩))).1 k_ hk_.symm) ?aF ?aO ?aB ?aS ?aL ?_
                (case aP => exact k48_mkM _ _ _ (⟨(rd_T48 l0 (ji8)).f0, t502⟩ : S48) (Kd.R_mono (Kd.R_tight rfl (Kd.R_mono (ok' := fun k_ => ((fun k_ => k_ ≠ gb501)) k_ ∧ some k_ ≠ (u9 : Value).ownBlock) (Kd.R_types (Kd.R_apart' (HO504.out) (Kd.S_typed HO_9.out) (by decide)) BK501.out (by decide)) (fun k_ hk => ⟨hk.2, hk.1.2⟩))) (fun _ h_ => h_)))
                (case aB => exact (by repeat (first | (with_reducible first | exact HB.out | apply below_alloc | apply pw_below_drewN | apply below_drew1 | refine below_set ?_ GE501.out) | exact HB.out)))
                (case aF => exact (fun k_ hk => Kd.freshB (g := gb501) (o := .cells #[.int .i64 ((rd_T48 l0 (ji8)).f0), .slice A500_1 ((rd_T48 l0 (ji8)).f1).length c500_1] 48 (0, 0)) (by (with_reducible repeat (first | refine blk_drewN ?_ _ | refine blk_drew ?_ | refine blk_alloc ?_ _)); exact BK501.out) k_ hk))
                (case aO => exact (by (with_reducible repeat (first | apply Kd.S_alloc | apply Kd.S_drewN | apply Kd.S_drew)); exact Kd.S_mono HO_9.out (fun k_ hk => ⟨hk.1, fun e_ => hk.2 e_⟩)))
                (case aS => exact (below_size (by repeat (first | (with_reducible first | exact HB.out | apply below_alloc | apply pw_below_drewN | apply below_drew1 | refine below_set ?_ GE501.out) | exact HB.out))))
                (case aL => have := LMc12.out; omega)
                intro v506 w19 ho hb hg hat
                rw [← Ny505.out] at ho
                have n0_ := Aside0.mk (blk_grown (g := gb501) (o := .cells #[.int .i64 ((rd_T48 l0 (ji8)).f0), .slice A500_1 ((rd_T48 l0 (ji8)).f1).length c500_1] 48 (0, 0)) (by (with_reducible repeat (first | refine blk_drewN ?_ _ | refine blk_drew ?_ | refine blk_alloc ?_ _)); exact BK501.out) hg (Kd.S_away HO_9.out (fun _ hk => hk.1)))
                have n1_ := Aside0.mk (hb)
                have n2_ := Aside0.mk (ho)
                clear BK501
                clear HB
                clear HO_9
                clear HO504
                have BK501 := n0_
                have HB := n1_
                have HO507 := n2_
                clear n0_ n1_ n2_
                clear ho hb hg hat
                refine hK.out _ _ ⟨(blk_cell BK501.out 0).trans rfl, (blk_cell BK501.out 1).trans rfl⟩ (fun hHeld => ?_)
                clear hK K
                refine norm_ (a' := ?_) ?_ ?_
                rotate_left
                · show Act.put _ (some 38) _ = _
                  simp only [Act.put, List.setIfInBounds_toArray, List.set_cons_zero, List.set_cons_succ, i64_w, i32_w]
                  rfl
                refine pure_ (i := 11) (N := some 9) (v := ?_) (a' := ?_) #[true, true, true, true, true, true, true, true, true, true, true, true] rfl rfl (any_of HT_.out (by kernel_rfl)) (fun _ _ _ h => h) (Or.inl ⟨by rfl, ?_⟩) ?_ ?_
                rotate_left
                · intro w'
                  go_simp
                  with_reducible rfl
                rotate_left
                · simp only [Act.put, List.setIfInBounds_toArray, List.set_cons_zero, List.set_cons_succ, i64_w, i32_w]
                  rfl
                refine done_ (done_of HT_.out (by kernel_rfl)) ?_
                try go_wp2
                go_roundg k1
                case measure => have := HK1.out; omega
                case rel => exact ⟨(y505), (wrap64 (x10_1 + 1)), (by first | rfl | (simp; done) | (simp [*]; done)), H', ⟨by have := HK1.out; omega⟩, ⟨by (with_reducible repeat (first | apply Kd.S_alloc | apply Kd.S_drewN | apply Kd.S_drew)); exact Kd.S_mono HO507.out (fun _ hk => trivial)⟩, ⟨by repeat (first | (with_reducible first | exact HB.out | apply below_alloc | apply pw_below_drewN | apply below_drew1 | refine below_set ?_ GE501.out) | exact HB.out)⟩⟩
              · rw [if_neg c12] at H
                exact absurd H (by simp)
            · rw [if_neg c10] at H
              exact absurd H (by simp)
          · rw [if_neg c9] at H
            exact absurd H (by simp)
      · rw [if_neg c6] at H
        have c6b0 : decide (x10_1 < (l0.length : Int)) = false := decide_eq_false c6
        clear c6
        replace H := Option.bind_eq_some_iff.mp H
        obtain ⟨t508, A200, H⟩ := H
        replace H : (some (x9_1, t508)) = some (r1, r2) := H
        have A20 := Aside0.mk A200
        clear A200
        simp only [Option.some.injEq, Prod.mk.injEq] at H
        obtain ⟨rfl, rfl⟩ := H
        go_wp2_with (first | ((with_reducible refine gate_callee (f := 46) rfl ?_); refine goesL_ (some 43) rfl rfl Try.func46 (by kernel_rfl) rfl #[.slice A1 l1.length c1, .int .i64 (l0.length : Int), .int .i64 a2] rfl (by (try simp only [List.map_toArray, List.map_cons, List.map_nil]); first | done | rfl | (simp only [List.length_drop, List.length_take]; rfl)) ?_; (with_reducible refine (laws_leTurn.calls k1 _ _ l1 (l0.length : Int) a2 t508 _ ?side1 ?side2 A20.out).mono ?_); (case side1 => repeat (first | exact (Kd.C_below HR1.out HB.out) | (with_reducible refine Kd.C_alloc ?_ _) | (with_reducible refine Kd.C_drewN ?_ _) | (with_reducible refine Kd.C_drew ?_))); (case side2 => exact HC1.out); rintro e w21 ⟨v509, rfl, ho0, hb⟩; refine ⟨_, rfl, ?_⟩; have n0_ := Aside0.mk (Kd.S_elder' (by (with_reducible repeat (first | apply Kd.S_alloc | apply Kd.S_drewN | apply Kd.S_drew)); exact HO_9.out) (Kd.R_base ho0) hb); have n1_ := Aside0.mk (Kd.R_lower ho0 (below_size (by repeat (first | (with_reducible first | exact HB.out | apply below_alloc | apply pw_below_drewN | apply below_drew1) | exact HB.out)))); have n2_ := Aside0.mk (below_step (by repeat (first | (with_reducible first | exact HB.out | apply below_alloc | apply pw_below_drewN | apply below_drew1) | exact HB.out)) hb); clear HO_9; clear HB; have HO_9 := n0_; have HO510 := n1_; have HB := n2_; clear n0_ n1_ n2_; (try clear hb); (try clear hb2); (try clear hk); (try clear hi); (try clear ho0)))
        go_ret2
        exact ⟨_, _, by first | rfl | (simp [errW_none, errW_some] <;> rfl) | (simp [*, errW_none, errW_some] <;> rfl), by (with_reducible repeat (first | apply Kd.S_alloc | apply Kd.S_drewN | apply Kd.S_drew)); exact Kd.S_mono HO_9.out (fun _ hk => hk.2), by (with_reducible repeat (first | apply Kd.R_alloc | apply Kd.R_drewN | apply Kd.R_drew)); exact HO510.out, by repeat (first | (with_reducible first | exact HB.out | apply below_alloc | apply pw_below_drewN | apply below_drew1) | exact HB.out)⟩
end Go.Proofs.Yteeakklnlcjgbaa.P

end
section

namespace Go.Proofs.Yteeakklnlcjgbaa.P
open Go Go.RowKit Go.Proofs.YteeakklnlcjgbaaW.PrintWords Go.Proofs.YteeakklnlcjgbaaW.PrintLast Go.Proofs.YteeakklnlcjgbaaW.PrintMore
attribute [local go_sem] max2_int min2_int max_two min_two max_three min_three max_four min_four
set_option linter.unusedVariables false
set_option linter.unusedSimpArgs false
theorem range_law {P : Program} {g : Operand} {ps : Array Tmp} {assign body : Code} {Q : Exit → Act → World → Prop} {a : Act} {w : World} (gf : FuncId) (lb : Array Value) (hg : a.eval g = .func (.func gf) #[] lb)
    (eg : ∀ args w, (callFunc gf args).run P w = .ok (.enter gf args) w)
    (h : ∀ (fn : FuncId) (rc : Loop), rc = { state := .ready, pending := none, fn, tmps := a.tmps, params := ps, assign, body, defers := w.heap.size } →
      Calls P gf (#[.func (.yield (w.heap.size + 1)) #[] #[]] ++ lb) ((w.alloc (.deferred (some []))).alloc (.loop rc)) fun e w3 => (∃ v, e = .returned v) ∧ w3.heap[w.heap.size + 1]? = some (.loop rc) ∧
        Q .normal { a with defers := { target := .collected w.heap.size, args := #[] } :: a.defers } (w3.putObj (w.heap.size + 1) (.loop { rc with state := .exhausted }))) :
    (Code.rangeFunc g ps assign body).wp P Q a w := by
  refine (wpIn_wide (n := 1)).1 (wpIn_rangeFunc ?_)
  intro fn hfn
  obtain ⟨rc, hrc⟩ : ∃ rc : Loop, rc = { state := .ready, pending := none, fn, tmps := a.tmps, params := ps, assign, body, defers := w.heap.size } := ⟨_, rfl⟩
  refine ⟨w.heap.size + 1, [{ target := .collected w.heap.size, args := #[] }], (w.alloc (.deferred (some []))).alloc (.loop rc), { target := .fn (.func gf) lb, args := #[.func (.yield (w.heap.size + 1)) #[] #[]] }, (w.alloc (.deferred (some []))).alloc (.loop rc), gf,
    #[.func (.yield (w.heap.size + 1)) #[] #[]] ++ lb, (w.alloc (.deferred (some []))).alloc (.loop rc), ?_, ?_, ?_, ?_, fun _ => Nat.le_refl _, ?_⟩
  · rw [hrc]; exact run_enterLoop_outer _ _ _ _ _
  · simp only [resolve, hg]
    simp [go_sem]
  · intro f' hf'; trivial
  · simp [invoke, go_sem, eg]
  · refine callsIn_wide.2 ((h fn rc hrc).mono ?_)
    rintro e w3 ⟨⟨v, rfl⟩, hl, hq⟩
    refine ⟨none, _, ?_, hq⟩
    have h_ := run_endLoop (P := P) hl (by rw [hrc]; simp)
    rw [h_, hrc]
theorem reached.calls (A0 : Option Addr) (n0 c0 : Nat) (A1 : Option Addr) (n1 c1 : Nat) (w : World) :
    Calls Try.prog 43 #[.slice A0 n0 c0, .slice A1 n1 c1] w fun e w' => e = .returned (.func (.func 50) #[] #[.pointer (some ⟨w.heap.size, 0, none⟩), .pointer (some ⟨w.heap.size + 1, 0, none⟩)]) ∧
      w' = (w.alloc (.cells #[.slice A0 n0 c0] 33 (0, 0))).alloc (.cells #[.slice A1 n1 c1] 35 (0, 0)) := by
  go_enter Try.func43, Try.ntmps43
  go_wp2
  go_ret
  exact ⟨rfl, rfl⟩
theorem wpListIn_append_at {F : Fence} {n : Nat} {P : Program} (w : World) {ops : Array Oper} {rest : List Oper} {o : Oper} {a : Act} {Q : Exit → Act → World → Prop}
    (hg : o.guard = none) (s x : Operand) (t : TypeId) (hop : o.op = Op.call { callee := Callee.builtin Builtin.append, args := #[s, x], argTypes := #[t, t] })
    (base : Nat) (e : TypeId) (i : TypeInfo) (z : Value) (size bytes : Nat) (h1 : P.underlying t = some (.slice e)) (h2 : P.info? e = some i) (h3 : i.zero = some z) (h4 : i.size = size) (h5 : i.bytes = bytes) (h6 : z.cells.size = size) (h7 : 0 < size)
    (v : Value) (k : Nat) (xs : List Value) (hs : a.eval s = v) (hown : w.ownsRow base e size v k xs) (ad : Addr) (m c : Nat) (news : List Value) (hx : a.eval x = .slice (some ad) m c) (hn : news.length = m * size)
    (hc : ∀ j u, news[j]? = some u → w.cell? (ad.add j) = some u) (h1c : ∀ u ∈ news, u.oneCell' = true) (b1 : k + m ≤ maxLen) (b2 : (k + m) * bytes ≤ 140737488355328) (b3 : base ≤ w.heap.size)
    (hK : ∀ v' w', w'.ownsRow base e size v' (k + m) (xs ++ news) → w.grownBy w' v.ownBlock → (v'.ownBlock = v.ownBlock ∨ v'.ownBlock = some w.heap.size) → wpListIn F n P ops Q rest (a.put o.dst v') w') :
    wpListIn F n P ops Q (o :: rest) a w := by
  refine wpListIn_plain hg fun K hK' => ?_
  obtain ⟨v', w', hrun, r1, r2, _, r3⟩ := run_append_own_at (P := P) w base t o.type e i z size bytes h1 h2 h3 h4 h5 h6 h7 v k xs hown ad m c news hn hc h1c b1 b2 b3
  unfold Oper.wpIn
  refine ⟨?_, ?_⟩
  · simp [Oper.about, hop, resolve, Target.leads, Sem.run_pure]
  · rw [Oper.semAt_plain F _ _ (by rw [hop]; intro c hc'; cases hc')]
    simp [execOp, hop, resolve, invoke, builtin, hs, hx, hrun, Result.andThen]
    exact hK' _ _ (hK v' w' r1 r2 r3)
theorem GC.turn {B : Nat} {a : GA} {oo ot : List Int} {vo : Value} {w : World} (h : GC B a oo ot vo w) (rc : Loop) : GC B { a with rc := rc } oo ot vo (w.putObj a.L (.loop rc)) := by
  have hg := grownBy_putObj' w a.L (.loop rc)
  have f : ∀ {b : Nat} {cs : Array Value} {t : TypeId}, w.heap[b]? = some (.cells cs t (0, 0)) → (w.putObj a.L (.loop rc)).heap[b]? = some (.cells cs t (0, 0)) := fun hb => blk_grown hb hg (by intro e; exact ne_blk hb h.rc (by intro e; cases e) (Option.some.inj e))
  exact ⟨f h.tB, f h.t, f h.oB, h.o.kept hg (.inr (own_ne h.o h.rc (by intro _ e; cases e))), h.on, World.putObj_heap_same (Array.getElem?_eq_some_iff.1 h.rc).1, blk_grown h.df hg (by intro e; exact ne_blk h.df h.rc (by intro e; cases e) (Option.some.inj e)), h.ge, h.ne⟩
theorem GI.turn {B : Nat} {a : GA} {os oq oo ot : List Int} {vq vo : Value} {w : World} (h : GI B a os oq vq w) (hC : GC B a oo ot vo w) (rc : Loop) : GI B { a with rc := rc } os oq vq (w.putObj a.L (.loop rc)) := by
  have hg := grownBy_putObj' w a.L (.loop rc)
  have f : ∀ {b : Nat} {cs : Array Value} {t : TypeId}, w.heap[b]? = some (.cells cs t (0, 0)) → (w.putObj a.L (.loop rc)).heap[b]? = some (.cells cs t (0, 0)) := fun hb => blk_grown hb hg (by intro e; exact ne_blk hb hC.rc (by intro e; cases e) (Option.some.inj e))
  exact ⟨f h.sB, f h.s, f h.qB, h.q.kept hg (.inr (own_ne h.q hC.rc (by intro _ e; cases e))), f h.yB, f h.jB, h.ge, h.ne, h.qt⟩
theorem GB.turn {w0 : World} {a : GA} {oq oc : List Int} {vq vo : Value} {w : World} (h : GB w0 a oq oc vq vo w) (rc : Loop) : GB w0 { a with rc := rc } oq oc vq vo (w.putObj a.L (.loop rc)) :=
  ⟨h.i.turn h.c rc, h.c.turn rc, h.x, h.b.grown (grownBy_putObj' w a.L (.loop rc)) h.b.size (fun k e => by cases e; exact h.c.ge.2.2)⟩
end Go.Proofs.Yteeakklnlcjgbaa.P

end
section

namespace Go.Proofs.Yteeakklnlcjgbaa.P
open Go.RowKit Go.Proofs.YteeakklnlcjgbaaW.PrintWords Go.Proofs.YteeakklnlcjgbaaW.PrintLast Go.Proofs.YteeakklnlcjgbaaW.PrintMore
attribute [local go_sem] max2_int min2_int max_two min_two max_three min_three max_four min_four
set_option linter.unusedVariables false
set_option linter.unusedSimpArgs false
set_option maxHeartbeats 8000000 in
set_option maxRecDepth 100000 in
theorem impl_leadsOk.calls (a0_0 : Bool) (a0_1 : Int) (a1 : Int) (r : Bool) (w : World) (h : impl_leadsOk.f a0_0 a0_1 a1 = some r) :
    Calls Try.prog 39 #[.agg #[.bool a0_0, .int .i64 a0_1], .int .i64 a1] w fun e w' => e = .returned (.bool r) ∧ Below w.heap.size w w' := by
  have hu46 := Try.underlying46
  have HB := Aside0.mk (Below.refl w.heap.size w)
  have H : (if a0_0 = true then (if a0_1 ≥ 0 then (some (decide (a0_1 ≤ a1))) else (some false)) else (some true)) = some r := h
  clear h
  by_cases c3 : a0_0 = true
  · subst c3
    have H1 : (if a0_1 ≥ 0 then (some (decide (a0_1 ≤ a1))) else (some false)) = some r := by rw [if_pos rfl] at H; exact H
    clear H
    have H := H1
    clear H1
    by_cases c4 : a0_1 ≥ 0
    · rw [if_pos c4] at H
      have c4b0 : decide (0 ≤ a0_1) = true := decide_eq_true c4
      clear c4
      obtain rfl := Option.some.inj H
      simp only [Option.some.injEq, Prod.mk.injEq] at H
      obtain ⟨rfl⟩ := H
      go_enter Try.func39, Try.ntmps39
      go_wp2_with (first | ((with_reducible refine gate_dst (N := 2) rfl ?_); refine box_event ?hg (N := 2) ?hd (cs := #[.bool true, .int .i64 a0_1]) (t := 46) ?hr ?_; (case hd => rfl); (case hg => rfl); (case hr => first | (go_simp; done) | (go_simp; rfl)); intro gb171 hg w5 hbox hb; have n0_ := Aside0.mk (below_step (by repeat (first | (with_reducible first | exact HB.out | apply below_alloc | apply pw_below_drewN | apply below_drew1) | exact HB.out)) hb); have n1_ := Aside0.mk (hbox); have n2_ := Aside0.mk ((by rw [hg]; exact (below_size (by repeat (first | (with_reducible first | exact HB.out | apply below_alloc | apply pw_below_drewN | apply below_drew1) | exact HB.out))) : w.heap.size ≤ gb171)); have n3_ := Aside0.mk ((by rw [hg]; exact (below_size (by repeat (first | (with_reducible first | exact HB.out | apply below_alloc | apply pw_below_drewN | apply below_drew1) | exact HB.out))) : w.heap.size ≤ gb171)); clear HB; have HB := n0_; have BK171 := n1_; have GW171 := n2_; have GE171 := n3_; clear n0_ n1_ n2_ n3_; clear hb hbox hg; have hcz6_0 : w5.cell? ⟨gb171, 0, none⟩ = some (.bool true) := (blk_cell BK171.out 0).trans rfl; have hcz6_1 : w5.cell? ⟨gb171, 1, none⟩ = some (.int .i64 a0_1) := (blk_cell BK171.out 1).trans rfl; have hfz6_0 := blk_frozen BK171.out 0; have hfz6_1 := blk_frozen BK171.out 1))
      go_ret
      exact ⟨by first | rfl | (simp [errW_none, errW_some] <;> rfl) | (simp [*, errW_none, errW_some] <;> rfl), by repeat (first | (with_reducible first | exact HB.out | apply below_alloc | apply pw_below_drewN | apply below_drew1 | refine below_set ?_ GE171.out) | exact HB.out)⟩
    · rw [if_neg c4] at H
      have c4b0 : decide (0 ≤ a0_1) = false := decide_eq_false c4
      clear c4
      obtain rfl := Option.some.inj H
      simp only [Option.some.injEq, Prod.mk.injEq] at H
      obtain ⟨rfl⟩ := H
      go_enter Try.func39, Try.ntmps39
      go_wp2_with (first | ((with_reducible refine gate_dst (N := 2) rfl ?_); refine box_event ?hg (N := 2) ?hd (cs := #[.bool true, .int .i64 a0_1]) (t := 46) ?hr ?_; (case hd => rfl); (case hg => rfl); (case hr => first | (go_simp; done) | (go_simp; rfl)); intro gb171 hg w7 hbox hb; have n0_ := Aside0.mk (below_step (by repeat (first | (with_reducible first | exact HB.out | apply below_alloc | apply pw_below_drewN | apply below_drew1) | exact HB.out)) hb); have n1_ := Aside0.mk (hbox); have n2_ := Aside0.mk ((by rw [hg]; exact (below_size (by repeat (first | (with_reducible first | exact HB.out | apply below_alloc | apply pw_below_drewN | apply below_drew1) | exact HB.out))) : w.heap.size ≤ gb171)); have n3_ := Aside0.mk ((by rw [hg]; exact (below_size (by repeat (first | (with_reducible first | exact HB.out | apply below_alloc | apply pw_below_drewN | apply below_drew1) | exact HB.out))) : w.heap.size ≤ gb171)); clear HB; have HB := n0_; have BK171 := n1_; have GW171 := n2_; have GE171 := n3_; clear n0_ n1_ n2_ n3_; clear hb hbox hg; have hcz8_0 : w7.cell? ⟨gb171, 0, none⟩ = some (.bool true) := (blk_cell BK171.out 0).trans rfl; have hcz8_1 : w7.cell? ⟨gb171, 1, none⟩ = some (.int .i64 a0_1) := (blk_cell BK171.out 1).trans rfl; have hfz8_0 := blk_frozen BK171.out 0; have hfz8_1 := blk_frozen BK171.out 1))
      go_ret
      exact ⟨by first | rfl | (simp [errW_none, errW_some] <;> rfl) | (simp [*, errW_none, errW_some] <;> rfl), by repeat (first | (with_reducible first | exact HB.out | apply below_alloc | apply pw_below_drewN | apply below_drew1 | refine below_set ?_ GE171.out) | exact HB.out)⟩
  · replace c3 := Bool.eq_false_iff.mpr c3
    subst c3
    have H1 : (some true) = some r := by rw [if_neg (show ¬ (false = true) by decide)] at H; exact H
    clear H
    have H := H1
    clear H1
    obtain rfl := Option.some.inj H
    simp only [Option.some.injEq, Prod.mk.injEq] at H
    obtain ⟨rfl⟩ := H
    go_enter Try.func39, Try.ntmps39
    go_wp2_with (first | ((with_reducible refine gate_dst (N := 2) rfl ?_); refine box_event ?hg (N := 2) ?hd (cs := #[.bool false, .int .i64 a0_1]) (t := 46) ?hr ?_; (case hd => rfl); (case hg => rfl); (case hr => first | (go_simp; done) | (go_simp; rfl)); intro gb171 hg w9 hbox hb; have n0_ := Aside0.mk (below_step (by repeat (first | (with_reducible first | exact HB.out | apply below_alloc | apply pw_below_drewN | apply below_drew1) | exact HB.out)) hb); have n1_ := Aside0.mk (hbox); have n2_ := Aside0.mk ((by rw [hg]; exact (below_size (by repeat (first | (with_reducible first | exact HB.out | apply below_alloc | apply pw_below_drewN | apply below_drew1) | exact HB.out))) : w.heap.size ≤ gb171)); have n3_ := Aside0.mk ((by rw [hg]; exact (below_size (by repeat (first | (with_reducible first | exact HB.out | apply below_alloc | apply pw_below_drewN | apply below_drew1) | exact HB.out))) : w.heap.size ≤ gb171)); clear HB; have HB := n0_; have BK171 := n1_; have GW171 := n2_; have GE171 := n3_; clear n0_ n1_ n2_ n3_; clear hb hbox hg; have hcz10_0 : w9.cell? ⟨gb171, 0, none⟩ = some (.bool false) := (blk_cell BK171.out 0).trans rfl; have hcz10_1 : w9.cell? ⟨gb171, 1, none⟩ = some (.int .i64 a0_1) := (blk_cell BK171.out 1).trans rfl; have hfz10_0 := blk_frozen BK171.out 0; have hfz10_1 := blk_frozen BK171.out 1))
    go_ret
    exact ⟨by first | rfl | (simp [errW_none, errW_some] <;> rfl) | (simp [*, errW_none, errW_some] <;> rfl), by repeat (first | (with_reducible first | exact HB.out | apply below_alloc | apply pw_below_drewN | apply below_drew1 | refine below_set ?_ GE171.out) | exact HB.out)⟩
end Go.Proofs.Yteeakklnlcjgbaa.P

end
