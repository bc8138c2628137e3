/- A part of the claim FnExactUnitFind: texts of this session and texts that its program printed out of the translation, joined. -/
import Derived.Test.YtedodaifpekahaaCFnExactUnitFind21
import Derived.Test.YtedodaifpekahaaCFnExactUnitFind22
import Derived.Test.YtedodaifpekahaaCFnExactUnitFind28
import Derived.Test.YtedodaifpekahaaCFnExactUnitFind27
import Derived.Carry
import Derived.Test.YtedodaifpekahaaCFnExactUnitFind0
import Derived.Test.YtedodaifpekahaaCFnExactUnitFind1
import Derived.Test.YtedodaifpekahaaCFnExactUnitFind2
import Derived.Test.YtedodaifpekahaaCFnExactUnitFind3
import Derived.Test.YtedodaifpekahaaCFnExactUnitFind4
import Derived.Test.YtedodaifpekahaaCFnExactUnitFind5
import Derived.Test.YtedodaifpekahaaCFnExactUnitFind6
import Derived.Test.YtedodaifpekahaaCFnExactUnitFind7
import Derived.Test.YtedodaifpekahaaCFnExactUnitFind8
import Derived.Test.YtedodaifpekahaaCFnExactUnitFind9
import Derived.Test.YtedodaifpekahaaCFnExactUnitFind10
import Derived.Test.YtedodaifpekahaaCFnExactUnitFind11
import Derived.Test.YtedodaifpekahaaCFnExactUnitFind12
import Derived.Test.YtedodaifpekahaaCFnExactUnitFind13
import Derived.Test.YtedodaifpekahaaCFnExactUnitFind14
import Derived.Test.YtedodaifpekahaaCFnExactUnitFind15
import Derived.Test.YtedodaifpekahaaCFnExactUnitFind16
import Derived.Test.YtedodaifpekahaaCFnExactUnitFind17
import Derived.Test.YtedodaifpekahaaCFnExactUnitFind18
import Derived.Test.YtedodaifpekahaaCFnExactUnitFind19
import Derived.Test.YtedodaifpekahaaCFnExactUnitFind20
import Derived.Test.YtedodaifpekahaaCFnExactUnitFind23
import Derived.Test.YtedodaifpekahaaCFnExactUnitFind24
import Derived.Test.YtedodaifpekahaaCFnExactUnitFind25
import Derived.Test.YtedodaifpekahaaCFnExactUnitFind26
section

namespace Go.Proofs.Ytedodaifpekahaa.P
open Go.RowKit Go.Proofs.YtedodaifpekahaaW.PrintWords Go.Proofs.YtedodaifpekahaaW.PrintLast Go.Proofs.YtedodaifpekahaaW.PrintMore
attribute [local go_sem] max2_int min2_int max_two min_two max_three min_three max_four min_four
set_option linter.unusedVariables false
set_option linter.unusedSimpArgs false
set_option maxHeartbeats 8000000 in
set_option maxRecDepth 100000 in
theorem impl_codeOk.calls (k : Nat) (A0_0 : Option Addr) (c0_0 : Nat) (l0_0 : List (S76)) (A0_1 : Option Addr) (c0_1 : Nat) (l0_1 : List (S46)) (a1_0 : Int) (a1_1 : Int) (A1_2 : Option Addr) (c1_2 : Nat) (l1_2 : List Int) (a1_3 : Int) (a1_4 : Int) (A1_5 : Option Addr) (c1_5 : Nat) (l1_5 : List (S67)) (A1_6 : Option Addr) (c1_6 : Nat) (l1_6 : List (S70)) (A1_7 : Option Addr) (c1_7 : Nat) (l1_7 : List (S73)) (a2 : Int) (r : Bool) (w : World) (hr0_0 : Kd.C k76 w A0_0 l0_0.length l0_0) (hc0_0 : l0_0.length ≤ c0_0) (hr0_1 : Kd.C k46 w A0_1 l0_1.length l0_1) (hc0_1 : l0_1.length ≤ c0_1) (hr1_2 : Kd.C (Kd.int .i64) w A1_2 l1_2.length l1_2) (hc1_2 : l1_2.length ≤ c1_2) (hr1_5 : Kd.C k67 w A1_5 l1_5.length l1_5) (hc1_5 : l1_5.length ≤ c1_5) (hr1_6 : Kd.C k70 w A1_6 l1_6.length l1_6) (hc1_6 : l1_6.length ≤ c1_6) (hr1_7 : Kd.C k73 w A1_7 l1_7.length l1_7) (hc1_7 : l1_7.length ≤ c1_7) {gM : Nat} (hgm : w.heap[gM]? = some wantsO) (h : impl_codeOk.f k l0_0 l0_1 a1_0 a1_1 l1_2 a1_3 a1_4 l1_5 l1_6 l1_7 a2 = some r) :
  Calls Try.prog 23 #[.agg #[.slice A0_0 l0_0.length c0_0, .slice A0_1 l0_1.length c0_1], .agg #[.int .i64 a1_0, .int .i64 a1_1, .slice A1_2 l1_2.length c1_2, .int .i64 a1_3, .int .i64 a1_4, .slice A1_5 l1_5.length c1_5, .slice A1_6 l1_6.length c1_6, .slice A1_7 l1_7.length c1_7], .map (some gM)] w fun e w' => e = .returned (.bool r) ∧ Below w.heap.size w w' := by
 have HGM := Aside0.mk hgm
 clear hgm
 have hu31 := Try.underlying31
 have hu46 := Try.underlying46
 have hu67 := Try.underlying67
 have hu82 := Try.underlying82
 have hu70 := Try.underlying70
 have HR0_0 := Aside0.mk hr0_0
 have HC0_0 := Aside0.mk hc0_0
 clear hr0_0 hc0_0
 have HR0_1 := Aside0.mk hr0_1
 have HC0_1 := Aside0.mk hc0_1
 clear hr0_1 hc0_1
 have HR1_2 := Aside0.mk hr1_2
 have HC1_2 := Aside0.mk hc1_2
 clear hr1_2 hc1_2
 have HR1_5 := Aside0.mk hr1_5
 have HC1_5 := Aside0.mk hc1_5
 clear hr1_5 hc1_5
 have HR1_6 := Aside0.mk hr1_6
 have HC1_6 := Aside0.mk hc1_6
 clear hr1_6 hc1_6
 have HR1_7 := Aside0.mk hr1_7
 have HC1_7 := Aside0.mk hc1_7
 clear hr1_7 hc1_7
 have HB := Aside0.mk (Below.refl w.heap.size w)
 have H : (if (l1_5.length : Int) < 1 then (impl_codeOk.j0 k true l0_0 l0_1 a1_0 a1_1 l1_2 a1_3 a1_4 l1_5 l1_6 l1_7) else (if (l1_5.length : Int) > 12 then (impl_codeOk.j0 k true l0_0 l0_1 a1_0 a1_1 l1_2 a1_3 a1_4 l1_5 l1_6 l1_7) else (impl_codeOk.j0 k ((l1_6.length : Int) != (l1_5.length : Int)) l0_0 l0_1 a1_0 a1_1 l1_2 a1_3 a1_4 l1_5 l1_6 l1_7))) = some r := h
 clear h
 have HC4 := Aside0.mk H
 clear H
 go_enter Try.func23, Try.ntmps23
 go_upto_region 1 with (first | ((with_reducible refine gd 3 rfl ?_); (try (refine gate_guard (by rfl) ?_; dsimp only)); refine bx 3 #[.slice A0_0 l0_0.length c0_0, .slice A0_1 l0_1.length c0_1] 31 ?_; intro gb372 hg w5 hbox hb; have BK372 := Aside0.mk hbox; have GW372 := hz HB hg; have GE372 := hz HB hg; replace HB := hs HB hb; clear hb hbox hg) | ((with_reducible refine gd 4 rfl ?_); (try (refine gate_guard (by rfl) ?_; dsimp only)); refine bx 4 #[.int .i64 a1_0, .int .i64 a1_1, .slice A1_2 l1_2.length c1_2, .int .i64 a1_3, .int .i64 a1_4, .slice A1_5 l1_5.length c1_5, .slice A1_6 l1_6.length c1_6, .slice A1_7 l1_7.length c1_7] 46 ?_; intro gb373 hg w6 hbox hb; have BK373 := Aside0.mk hbox; have GW373 := hz HB hg; have GE373 := hz HB hg; have NB372_373 := nl BK372 hg; have NB373_372 := ng BK372 hg; replace BK372 := kb BK372 hb; replace HB := hs HB hb; clear hb hbox hg))
 (try simp only [Act.put, List.setIfInBounds_toArray, List.set_cons_zero, List.set_cons_succ])
 go_cut [31] (fun v31 wc => ∃ (kq : Nat) (x31_3 : Bool), v31 = .bool x31_3 ∧ Aside0 (impl_codeOk.j0 kq x31_3 l0_0 l0_1 a1_0 a1_1 l1_2 a1_3 a1_4 l1_5 l1_6 l1_7 = some r) ∧ Aside0 (kq ≤ k) ∧ Aside0 (wc.heap[gb372]? = some (.cells #[(.slice A0_0 l0_0.length c0_0), (.slice A0_1 l0_1.length c0_1)] 31 (0, 0))) ∧ Aside0 (wc.heap[gb373]? = some (.cells #[.int .i64 a1_0, .int .i64 a1_1, (.slice A1_2 l1_2.length c1_2), .int .i64 a1_3, .int .i64 a1_4, (.slice A1_5 l1_5.length c1_5), (.slice A1_6 l1_6.length c1_6), (.slice A1_7 l1_7.length c1_7)] 46 (0, 0))) ∧ Aside0 (Below w.heap.size w wc))
 case first =>
  have H := HC4.out
  clear HC4
  by_cases c7 : (l1_5.length : Int) < 1
  ·rw [if_pos c7] at H
   have c7b0 : decide ((l1_5.length : Int) < 1) = true := decide_eq_true c7
   have c7b1 : decide (l1_5.length < 1) = true := decide_eq_true (by omega)
   clear c7
   (first | rw [c7b0] | (simp only [i64_w, i32_w]; rw [c7b0]) | skip)
   have H' := Aside0.mk H
   clear H
   have hnb8 := NB373_372.out
   have hnc8 := NB372_373.out
   obtain ⟨_,_,_,_,_,_,_,_,_,_,_,_,_,_,_,_⟩ := cf8 BK373
   go_wp2
   go_meet
   case rel => exact ⟨_, (true), (by first | rfl | (simp; done) | (simp [*]; done)), H', ⟨by first | omega | exact Nat.le_refl _⟩, kk BK372, kk BK373, ⟨bl⟩⟩
  ·rw [if_neg c7] at H
   have c7b0 : decide ((l1_5.length : Int) < 1) = false := decide_eq_false c7
   have c7b1 : decide (l1_5.length < 1) = false := decide_eq_false (by omega)
   clear c7
   (first | rw [c7b0] | (simp only [i64_w, i32_w]; rw [c7b0]) | skip)
   by_cases c10 : (l1_5.length : Int) > 12
   ·rw [if_pos c10] at H
    have c10b0 : decide (12 < (l1_5.length : Int)) = true := decide_eq_true c10
    have c10b1 : decide (12 < l1_5.length) = true := decide_eq_true (by omega)
    clear c10
    have H' := Aside0.mk H
    clear H
    have hnb11 := NB373_372.out
    have hnc11 := NB372_373.out
    obtain ⟨_,_,_,_,_,_,_,_,_,_,_,_,_,_,_,_⟩ := cf8 BK373
    go_wp2
    go_meet
    case rel => exact ⟨_, (true), (by first | rfl | (simp; done) | (simp [*]; done)), H', ⟨by first | omega | exact Nat.le_refl _⟩, kk BK372, kk BK373, ⟨bl⟩⟩
   ·rw [if_neg c10] at H
    have c10b0 : decide (12 < (l1_5.length : Int)) = false := decide_eq_false c10
    have c10b1 : decide (12 < l1_5.length) = false := decide_eq_false (by omega)
    clear c10
    have H' := Aside0.mk H
    clear H
    have hnb13 := NB373_372.out
    have hnc13 := NB372_373.out
    obtain ⟨_,_,_,_,_,_,_,_,_,_,_,_,_,_,_,_⟩ := cf8 BK373
    go_wp2
    go_meet
    case rel => exact ⟨_, (((l1_6.length : Int) != (l1_5.length : Int))), (by first | rfl | (simp; done) | (simp [*]; done)), H', ⟨by first | omega | exact Nat.le_refl _⟩, kk BK372, kk BK373, ⟨bl⟩⟩
 case rest =>
  clear HC4
  obtain ⟨kq, x31_3, rfl, HA, HJ3, BK372, BK373, HB⟩ := hcut
  cases kq with
  | zero => exact absurd HA.out (by simp [impl_codeOk.j0])
  | succ kj3 =>
   have H := HA.out
   clear HA
   simp only [impl_codeOk.j0] at H
   by_cases c15 : x31_3 = true
   ·subst c15
    replace H := it H
    obtain rfl := Option.some.inj H; clear H
    go_wp2
    go_ret
    exact fin
   ·replace c15 := Bool.eq_false_iff.mpr c15
    subst c15
    replace H := ie H
    have H' := Aside0.mk H
    clear H
    have hnb16 := NB373_372.out
    have hnc16 := NB372_373.out
    obtain ⟨_,_,_,_,_,_,_,_,_,_,_,_,_,_,_,_⟩ := cf8 BK373
    go_wp2
    go_loopg [35] kj3 (fun kq v35 w' => ∃ (x35_2 : Int), v35 = .int .i64 x35_2 ∧ Aside0 (impl_codeOk.l0 kq l1_5 (l1_5.length : Int) x35_2 l0_0 l0_1 a1_0 a1_1 l1_2 a1_3 a1_4 l1_5 l1_6 l1_7 = some r) ∧ Aside0 (kq ≤ kj3) ∧ Aside0 (w'.heap[gb372]? = some (.cells #[(.slice A0_0 l0_0.length c0_0), (.slice A0_1 l0_1.length c0_1)] 31 (0, 0))) ∧ Aside0 (w'.heap[gb373]? = some (.cells #[.int .i64 a1_0, .int .i64 a1_1, (.slice A1_2 l1_2.length c1_2), .int .i64 a1_3, .int .i64 a1_4, (.slice A1_5 l1_5.length c1_5), (.slice A1_6 l1_6.length c1_6), (.slice A1_7 l1_7.length c1_7)] 46 (0, 0))) ∧ Aside0 (Below w.heap.size w w'))
    case atStart => exact ⟨(0), (by first | rfl | (simp; done) | (simp [*]; done)), H', ⟨Nat.le_refl _⟩, kk BK372, kk BK373, ⟨bl⟩⟩
    case round =>
     clear H'
     obtain ⟨x35_2, rfl, HA, HK2, BK372, BK373, HB⟩ := hrel
     cases gk with
     | zero => exact absurd HA.out (by simp [impl_codeOk.l0])
     | succ k2 =>
      have H := HA.out
      clear HA
      simp only [impl_codeOk.l0] at H
      by_cases c18 : x35_2 < (l1_5.length : Int)
      ·rw [if_pos c18] at H
       have c18b0 : decide (x35_2 < (l1_5.length : Int)) = true := decide_eq_true c18
       clear c18
       by_cases c19 : 0 ≤ x35_2
       ·rw [if_pos c19] at H
        have c19b0 : decide (0 ≤ x35_2) = true := decide_eq_true c19
        clear c19
        by_cases c20 : x35_2 < (l1_5.length : Int)
        ·rw [if_pos c20] at H
         have c20b0 : decide (x35_2 < (l1_5.length : Int)) = true := decide_eq_true c20
         clear c20
         replace H := Option.bind_eq_some_iff.mp H
         obtain ⟨⟨t376, t377, t378⟩, A210, H⟩ := H
         replace H : (if t378 = true then ((impl_operandOk.f k2 l0_0 l0_1 a1_0 a1_1 l1_2 a1_3 a1_4 l1_5 l1_6 l1_7 ((rd_T67 l1_5 x35_2).f0) ((rd_T67 l1_5 x35_2).f1) ((rd_T67 l1_5 x35_2).f2) t376 ((rd_T67 l1_5 x35_2).f1)).bind fun t380 => (if t380 = true then ((impl_operandOk.f k2 l0_0 l0_1 a1_0 a1_1 l1_2 a1_3 a1_4 l1_5 l1_6 l1_7 ((rd_T67 l1_5 x35_2).f0) ((rd_T67 l1_5 x35_2).f1) ((rd_T67 l1_5 x35_2).f2) t377 ((rd_T67 l1_5 x35_2).f2)).bind fun t381 => (if t381 = true then (impl_codeOk.l0 k2 l1_5 (l1_5.length : Int) (wrap64 (x35_2 + 1)) l0_0 l0_1 a1_0 a1_1 l1_2 a1_3 a1_4 l1_5 l1_6 l1_7) else (some false))) else (some false))) else (some false)) = some r := H
         have A21 := Aside0.mk A210
         clear A210
         by_cases c22 : t378 = true
         ·subst c22
          replace H := it H
          obtain ⟨t380, A23, H⟩ := ob H
          by_cases c24 : t380 = true
          ·subst c24
           replace H := it H
           obtain ⟨t381, A25, H⟩ := ob H
           by_cases c26 : t381 = true
           ·subst c26
            replace H := it H
            have H' := Aside0.mk H
            clear H
            have p374 : 0 ≤ (x35_2 : Int) := od
            have q374 : x35_2 < (l1_5.length : Int) := od
            obtain ⟨ad374, e374, hx374_0, hx374_1, hx374_2⟩ := at_T67 HR1_5.out x35_2 p374 q374
            cases e374
            obtain ⟨hx374_0,hx374_1,hx374_2⟩ := hc3 HB hx374_0 hx374_1 hx374_2
            replace p374 := eq_true p374
            replace q374 := eq_true q374
            go_wp2_with (first | ((with_reducible refine gd 8 rfl ?_); (try (refine gate_guard (by rfl) ?_; dsimp only)); refine bx 8 #[.int .i64 0, .int .i64 0, .int .i64 0] 67 ?_; intro gb375 hg w27 hbox hb; have BK375 := Aside0.mk hbox; have GW375 := hz HB hg; have GE375 := hz HB hg; have NB372_375 := nl BK372 hg; have NB375_372 := ng BK372 hg; have NB373_375 := nl BK373 hg; have NB375_373 := ng BK373 hg; replace BK372 := kb BK372 hb; replace BK373 := kb BK373 hb; replace HB := hs HB hb; clear hb hbox hg; have hnb28 := NB375_372.out; have hnc28 := NB372_375.out; have hnb29 := NB375_373.out; have hnc29 := NB373_375.out; obtain ⟨_,_,_,_,_,_⟩ := cf3 BK375) | ((with_reducible refine gd 43 rfl ?_); refine want_event rfl rfl rfl rfl (blk_below HGM.out bl) A21.out ?_) | ((with_reducible refine gd 9 rfl ?_); (try (refine gate_guard (by rfl) ?_; dsimp only)); refine bx 9 #[.int .i64 0, .int .i64 0] 82 ?_; intro gb379 hg w31 hbox hb; have BK379 := Aside0.mk hbox; have GW379 := hz HB hg; have GE379 := hz HB hg; have NB372_379 := nl BK372 hg; have NB379_372 := ng BK372 hg; have NB373_379 := nl BK373 hg; have NB379_373 := ng BK373 hg; have NB375_379 := nl BK375 hg; have NB379_375 := ng BK375 hg; replace BK372 := kq BK372 hb; replace BK373 := kq BK373 hb; replace BK375 := kp gb375 #[.int .i64 ((rd_T67 l1_5 x35_2).f0), .int .i64 ((rd_T67 l1_5 x35_2).f1), .int .i64 ((rd_T67 l1_5 x35_2).f2)] 67 hb; replace HB := hs HB hb; clear hb hbox hg; have hnb32 := NB379_372.out; have hnc32 := NB372_379.out; have hnb33 := NB379_373.out; have hnc33 := NB373_379.out; have hnb34 := NB379_375.out; have hnc34 := NB375_379.out; obtain ⟨_,_,_,_⟩ := cf2 BK379; have hnb36 := NB372_373.out; have hnc36 := NB373_372.out; obtain ⟨_,_,_,_⟩ := cf2 BK372; obtain ⟨_,_,_,_,_,_,_,_,_,_,_,_,_,_,_,_⟩ := cf8 BK373; obtain ⟨_,_,_,_,_,_⟩ := cf3 BK375) | (go_at_call 44; (with_reducible refine (impl_operandOk.calls k2 _ _ l0_0 _ _ l0_1 a1_0 a1_1 _ _ l1_2 a1_3 a1_4 _ _ l1_5 _ _ l1_6 _ _ l1_7 ((rd_T67 l1_5 x35_2).f0) ((rd_T67 l1_5 x35_2).f1) ((rd_T67 l1_5 x35_2).f2) t376 ((rd_T67 l1_5 x35_2).f1) true _ ?side1 ?side2 ?side3 ?side4 ?side5 ?side6 ?side7 ?side8 ?side9 ?side10 ?side11 ?side12 A23.out).mono ?_); (case side1 => exact cb HR0_0.out); (case side2 => exact HC0_0.out); (case side3 => exact cb HR0_1.out); (case side4 => exact HC0_1.out); (case side5 => exact cb HR1_2.out); (case side6 => exact HC1_2.out); (case side7 => exact cb HR1_5.out); (case side8 => exact HC1_5.out); (case side9 => exact cb HR1_6.out); (case side10 => exact HC1_6.out); (case side11 => exact cb HR1_7.out); (case side12 => exact HC1_7.out); rintro e w40 ⟨rfl, hb⟩; replace BK372 := kq BK372 hb; replace BK373 := kq BK373 hb; replace BK375 := kq BK375 hb; replace BK379 := kp gb379 #[.int .i64 t376, .int .i64 t377] 82 hb; replace HB := hs HB hb; (try clear hb); obtain ⟨_,_,_,_⟩ := cf2 BK372; obtain ⟨_,_,_,_,_,_,_,_,_,_,_,_,_,_,_,_⟩ := cf8 BK373; obtain ⟨_,_,_,_,_,_⟩ := cf3 BK375; obtain ⟨_,_,_,_⟩ := cf2 BK379) | (go_at_call 44; (with_reducible refine (impl_operandOk.calls k2 _ _ l0_0 _ _ l0_1 a1_0 a1_1 _ _ l1_2 a1_3 a1_4 _ _ l1_5 _ _ l1_6 _ _ l1_7 ((rd_T67 l1_5 x35_2).f0) ((rd_T67 l1_5 x35_2).f1) ((rd_T67 l1_5 x35_2).f2) t377 ((rd_T67 l1_5 x35_2).f2) true _ ?side1 ?side2 ?side3 ?side4 ?side5 ?side6 ?side7 ?side8 ?side9 ?side10 ?side11 ?side12 A25.out).mono ?_); (case side1 => exact cb HR0_0.out); (case side2 => exact HC0_0.out); (case side3 => exact cb HR0_1.out); (case side4 => exact HC0_1.out); (case side5 => exact cb HR1_2.out); (case side6 => exact HC1_2.out); (case side7 => exact cb HR1_5.out); (case side8 => exact HC1_5.out); (case side9 => exact cb HR1_6.out); (case side10 => exact HC1_6.out); (case side11 => exact cb HR1_7.out); (case side12 => exact HC1_7.out); rintro e w45 ⟨rfl, hb⟩; replace BK372 := kb BK372 hb; replace BK373 := kb BK373 hb; replace BK375 := kb BK375 hb; replace BK379 := kb BK379 hb; replace HB := hs HB hb; (try clear hb)))
            go_roundg k2
            case measure => have := HJ3.out; have := HK2.out; omega
            case rel => exact ⟨(wrap64 (x35_2 + 1)), (by first | rfl | (simp; done) | (simp [*]; done)), H', ⟨by have := HJ3.out; have := HK2.out; omega⟩, kk BK372, kk BK373, ⟨bl⟩⟩
           ·replace c26 := Bool.eq_false_iff.mpr c26
            subst c26
            replace H := ie H
            obtain rfl := Option.some.inj H; clear H
            have p374 : 0 ≤ (x35_2 : Int) := od
            have q374 : x35_2 < (l1_5.length : Int) := od
            obtain ⟨ad374, e374, hx374_0, hx374_1, hx374_2⟩ := at_T67 HR1_5.out x35_2 p374 q374
            cases e374
            obtain ⟨hx374_0,hx374_1,hx374_2⟩ := hc3 HB hx374_0 hx374_1 hx374_2
            replace p374 := eq_true p374
            replace q374 := eq_true q374
            go_wp2_with (first | ((with_reducible refine gd 8 rfl ?_); (try (refine gate_guard (by rfl) ?_; dsimp only)); refine bx 8 #[.int .i64 0, .int .i64 0, .int .i64 0] 67 ?_; intro gb375 hg w46 hbox hb; have BK375 := Aside0.mk hbox; have GW375 := hz HB hg; have GE375 := hz HB hg; have NB372_375 := nl BK372 hg; have NB375_372 := ng BK372 hg; have NB373_375 := nl BK373 hg; have NB375_373 := ng BK373 hg; replace BK372 := kb BK372 hb; replace BK373 := kb BK373 hb; replace HB := hs HB hb; clear hb hbox hg; have hnb47 := NB375_372.out; have hnc47 := NB372_375.out; have hnb48 := NB375_373.out; have hnc48 := NB373_375.out; obtain ⟨_,_,_,_,_,_⟩ := cf3 BK375) | ((with_reducible refine gd 43 rfl ?_); refine want_event rfl rfl rfl rfl (blk_below HGM.out bl) A21.out ?_) | ((with_reducible refine gd 9 rfl ?_); (try (refine gate_guard (by rfl) ?_; dsimp only)); refine bx 9 #[.int .i64 0, .int .i64 0] 82 ?_; intro gb379 hg w50 hbox hb; have BK379 := Aside0.mk hbox; have GW379 := hz HB hg; have GE379 := hz HB hg; have NB372_379 := nl BK372 hg; have NB379_372 := ng BK372 hg; have NB373_379 := nl BK373 hg; have NB379_373 := ng BK373 hg; have NB375_379 := nl BK375 hg; have NB379_375 := ng BK375 hg; replace BK372 := kq BK372 hb; replace BK373 := kq BK373 hb; replace BK375 := kp gb375 #[.int .i64 ((rd_T67 l1_5 x35_2).f0), .int .i64 ((rd_T67 l1_5 x35_2).f1), .int .i64 ((rd_T67 l1_5 x35_2).f2)] 67 hb; replace HB := hs HB hb; clear hb hbox hg; have hnb51 := NB379_372.out; have hnc51 := NB372_379.out; have hnb52 := NB379_373.out; have hnc52 := NB373_379.out; have hnb53 := NB379_375.out; have hnc53 := NB375_379.out; obtain ⟨_,_,_,_⟩ := cf2 BK379; have hnb55 := NB372_373.out; have hnc55 := NB373_372.out; obtain ⟨_,_,_,_⟩ := cf2 BK372; obtain ⟨_,_,_,_,_,_,_,_,_,_,_,_,_,_,_,_⟩ := cf8 BK373; obtain ⟨_,_,_,_,_,_⟩ := cf3 BK375) | (go_at_call 44; (with_reducible refine (impl_operandOk.calls k2 _ _ l0_0 _ _ l0_1 a1_0 a1_1 _ _ l1_2 a1_3 a1_4 _ _ l1_5 _ _ l1_6 _ _ l1_7 ((rd_T67 l1_5 x35_2).f0) ((rd_T67 l1_5 x35_2).f1) ((rd_T67 l1_5 x35_2).f2) t376 ((rd_T67 l1_5 x35_2).f1) true _ ?side1 ?side2 ?side3 ?side4 ?side5 ?side6 ?side7 ?side8 ?side9 ?side10 ?side11 ?side12 A23.out).mono ?_); (case side1 => exact cb HR0_0.out); (case side2 => exact HC0_0.out); (case side3 => exact cb HR0_1.out); (case side4 => exact HC0_1.out); (case side5 => exact cb HR1_2.out); (case side6 => exact HC1_2.out); (case side7 => exact cb HR1_5.out); (case side8 => exact HC1_5.out); (case side9 => exact cb HR1_6.out); (case side10 => exact HC1_6.out); (case side11 => exact cb HR1_7.out); (case side12 => exact HC1_7.out); rintro e w59 ⟨rfl, hb⟩; replace BK372 := kq BK372 hb; replace BK373 := kq BK373 hb; replace BK375 := kq BK375 hb; replace BK379 := kp gb379 #[.int .i64 t376, .int .i64 t377] 82 hb; replace HB := hs HB hb; (try clear hb); obtain ⟨_,_,_,_⟩ := cf2 BK372; obtain ⟨_,_,_,_,_,_,_,_,_,_,_,_,_,_,_,_⟩ := cf8 BK373; obtain ⟨_,_,_,_,_,_⟩ := cf3 BK375; obtain ⟨_,_,_,_⟩ := cf2 BK379) | (go_at_call 44; (with_reducible refine (impl_operandOk.calls k2 _ _ l0_0 _ _ l0_1 a1_0 a1_1 _ _ l1_2 a1_3 a1_4 _ _ l1_5 _ _ l1_6 _ _ l1_7 ((rd_T67 l1_5 x35_2).f0) ((rd_T67 l1_5 x35_2).f1) ((rd_T67 l1_5 x35_2).f2) t377 ((rd_T67 l1_5 x35_2).f2) false _ ?side1 ?side2 ?side3 ?side4 ?side5 ?side6 ?side7 ?side8 ?side9 ?side10 ?side11 ?side12 A25.out).mono ?_); (case side1 => exact cb HR0_0.out); (case side2 => exact HC0_0.out); (case side3 => exact cb HR0_1.out); (case side4 => exact HC0_1.out); (case side5 => exact cb HR1_2.out); (case side6 => exact HC1_2.out); (case side7 => exact cb HR1_5.out); (case side8 => exact HC1_5.out); (case side9 => exact cb HR1_6.out); (case side10 => exact HC1_6.out); (case side11 => exact cb HR1_7.out); (case side12 => exact HC1_7.out); rintro e w64 ⟨rfl, hb⟩; replace BK372 := kb BK372 hb; replace BK373 := kb BK373 hb; replace BK375 := kb BK375 hb; replace BK379 := kb BK379 hb; replace HB := hs HB hb; (try clear hb)))
            go_ret
            exact fin
          ·replace c24 := Bool.eq_false_iff.mpr c24
           subst c24
           replace H := ie H
           obtain rfl := Option.some.inj H; clear H
           have p374 : 0 ≤ (x35_2 : Int) := od
           have q374 : x35_2 < (l1_5.length : Int) := od
           obtain ⟨ad374, e374, hx374_0, hx374_1, hx374_2⟩ := at_T67 HR1_5.out x35_2 p374 q374
           cases e374
           obtain ⟨hx374_0,hx374_1,hx374_2⟩ := hc3 HB hx374_0 hx374_1 hx374_2
           replace p374 := eq_true p374
           replace q374 := eq_true q374
           go_wp2_with (first | ((with_reducible refine gd 8 rfl ?_); (try (refine gate_guard (by rfl) ?_; dsimp only)); refine bx 8 #[.int .i64 0, .int .i64 0, .int .i64 0] 67 ?_; intro gb375 hg w65 hbox hb; have BK375 := Aside0.mk hbox; have GW375 := hz HB hg; have GE375 := hz HB hg; have NB372_375 := nl BK372 hg; have NB375_372 := ng BK372 hg; have NB373_375 := nl BK373 hg; have NB375_373 := ng BK373 hg; replace BK372 := kb BK372 hb; replace BK373 := kb BK373 hb; replace HB := hs HB hb; clear hb hbox hg; have hnb66 := NB375_372.out; have hnc66 := NB372_375.out; have hnb67 := NB375_373.out; have hnc67 := NB373_375.out; obtain ⟨_,_,_,_,_,_⟩ := cf3 BK375) | ((with_reducible refine gd 43 rfl ?_); refine want_event rfl rfl rfl rfl (blk_below HGM.out bl) A21.out ?_) | ((with_reducible refine gd 9 rfl ?_); (try (refine gate_guard (by rfl) ?_; dsimp only)); refine bx 9 #[.int .i64 0, .int .i64 0] 82 ?_; intro gb379 hg w69 hbox hb; have BK379 := Aside0.mk hbox; have GW379 := hz HB hg; have GE379 := hz HB hg; have NB372_379 := nl BK372 hg; have NB379_372 := ng BK372 hg; have NB373_379 := nl BK373 hg; have NB379_373 := ng BK373 hg; have NB375_379 := nl BK375 hg; have NB379_375 := ng BK375 hg; replace BK372 := kq BK372 hb; replace BK373 := kq BK373 hb; replace BK375 := kp gb375 #[.int .i64 ((rd_T67 l1_5 x35_2).f0), .int .i64 ((rd_T67 l1_5 x35_2).f1), .int .i64 ((rd_T67 l1_5 x35_2).f2)] 67 hb; replace HB := hs HB hb; clear hb hbox hg; have hnb70 := NB379_372.out; have hnc70 := NB372_379.out; have hnb71 := NB379_373.out; have hnc71 := NB373_379.out; have hnb72 := NB379_375.out; have hnc72 := NB375_379.out; obtain ⟨_,_,_,_⟩ := cf2 BK379; have hnb74 := NB372_373.out; have hnc74 := NB373_372.out; obtain ⟨_,_,_,_⟩ := cf2 BK372; obtain ⟨_,_,_,_,_,_,_,_,_,_,_,_,_,_,_,_⟩ := cf8 BK373; obtain ⟨_,_,_,_,_,_⟩ := cf3 BK375) | (go_at_call 44; (with_reducible refine (impl_operandOk.calls k2 _ _ l0_0 _ _ l0_1 a1_0 a1_1 _ _ l1_2 a1_3 a1_4 _ _ l1_5 _ _ l1_6 _ _ l1_7 ((rd_T67 l1_5 x35_2).f0) ((rd_T67 l1_5 x35_2).f1) ((rd_T67 l1_5 x35_2).f2) t376 ((rd_T67 l1_5 x35_2).f1) false _ ?side1 ?side2 ?side3 ?side4 ?side5 ?side6 ?side7 ?side8 ?side9 ?side10 ?side11 ?side12 A23.out).mono ?_); (case side1 => exact cb HR0_0.out); (case side2 => exact HC0_0.out); (case side3 => exact cb HR0_1.out); (case side4 => exact HC0_1.out); (case side5 => exact cb HR1_2.out); (case side6 => exact HC1_2.out); (case side7 => exact cb HR1_5.out); (case side8 => exact HC1_5.out); (case side9 => exact cb HR1_6.out); (case side10 => exact HC1_6.out); (case side11 => exact cb HR1_7.out); (case side12 => exact HC1_7.out); rintro e w78 ⟨rfl, hb⟩; replace BK372 := kq BK372 hb; replace BK373 := kq BK373 hb; replace BK375 := kq BK375 hb; replace BK379 := kp gb379 #[.int .i64 t376, .int .i64 t377] 82 hb; replace HB := hs HB hb; (try clear hb)))
           go_ret
           exact fin
         ·replace c22 := Bool.eq_false_iff.mpr c22
          subst c22
          replace H := ie H
          obtain rfl := Option.some.inj H; clear H
          have p374 : 0 ≤ (x35_2 : Int) := od
          have q374 : x35_2 < (l1_5.length : Int) := od
          obtain ⟨ad374, e374, hx374_0, hx374_1, hx374_2⟩ := at_T67 HR1_5.out x35_2 p374 q374
          cases e374
          obtain ⟨hx374_0,hx374_1,hx374_2⟩ := hc3 HB hx374_0 hx374_1 hx374_2
          replace p374 := eq_true p374
          replace q374 := eq_true q374
          go_wp2_with (first | ((with_reducible refine gd 43 rfl ?_); refine want_event rfl rfl rfl rfl (blk_below HGM.out bl) A21.out ?_))
          go_ret
          exact fin
        ·rw [if_neg c20] at H
         exact absurd H (by simp)
       ·rw [if_neg c19] at H
        exact absurd H (by simp)
      ·rw [if_neg c18] at H
       have c18b0 : decide (x35_2 < (l1_5.length : Int)) = false := decide_eq_false c18
       clear c18
       have H' := Aside0.mk H
       clear H
       have hnb88 := NB373_372.out
       have hnc88 := NB372_373.out
       obtain ⟨_,_,_,_,_,_,_,_,_,_,_,_,_,_,_,_⟩ := cf8 BK373
       go_wp2
       go_loopg [74] k2 (fun kq v74 w' => ∃ (x74_3 : Int), v74 = .int .i64 x74_3 ∧ Aside0 (impl_codeOk.l1 kq l1_6 (l1_6.length : Int) x74_3 l0_0 l0_1 a1_0 a1_1 l1_2 a1_3 a1_4 l1_5 l1_6 l1_7 = some r) ∧ Aside0 (kq ≤ k2) ∧ Aside0 (w'.heap[gb372]? = some (.cells #[(.slice A0_0 l0_0.length c0_0), (.slice A0_1 l0_1.length c0_1)] 31 (0, 0))) ∧ Aside0 (w'.heap[gb373]? = some (.cells #[.int .i64 a1_0, .int .i64 a1_1, (.slice A1_2 l1_2.length c1_2), .int .i64 a1_3, .int .i64 a1_4, (.slice A1_5 l1_5.length c1_5), (.slice A1_6 l1_6.length c1_6), (.slice A1_7 l1_7.length c1_7)] 46 (0, 0))) ∧ Aside0 (Below w.heap.size w w'))
       case atStart => exact ⟨(0), (by first | rfl | (simp; done) | (simp [*]; done)), H', ⟨Nat.le_refl _⟩, kk BK372, kk BK373, ⟨bl⟩⟩
       case round =>
        clear H'
        obtain ⟨x74_3, rfl, HA, HK3, BK372, BK373, HB⟩ := hrel
        cases gk with
        | zero => exact absurd HA.out (by simp [impl_codeOk.l1])
        | succ k3 =>
         have H := HA.out
         clear HA
         simp only [impl_codeOk.l1] at H
         by_cases c90 : x74_3 < (l1_6.length : Int)
         ·rw [if_pos c90] at H
          have c90b0 : decide (x74_3 < (l1_6.length : Int)) = true := decide_eq_true c90
          clear c90
          by_cases c91 : 0 ≤ x74_3
          ·rw [if_pos c91] at H
           have c91b0 : decide (0 ≤ x74_3) = true := decide_eq_true c91
           clear c91
           by_cases c92 : x74_3 < (l1_6.length : Int)
           ·rw [if_pos c92] at H
            have c92b0 : decide (x74_3 < (l1_6.length : Int)) = true := decide_eq_true c92
            clear c92
            obtain ⟨t384, A93, H⟩ := ob H
            by_cases c94 : t384 = true
            ·subst c94
             replace H := it H
             have H' := Aside0.mk H
             clear H
             have p382 : 0 ≤ (x74_3 : Int) := od
             have q382 : x74_3 < (l1_6.length : Int) := od
             obtain ⟨ad382, A382_1, c382_1, A382_2, c382_2, e382, hx382_0, hx382_1, hx382_2, hl382_1, hi382_1, hl382_2, hi382_2⟩ := at_T70 HR1_6.out x74_3 p382 q382
             cases e382
             obtain ⟨hx382_0,hx382_1,hx382_2⟩ := hc3 HB hx382_0 hx382_1 hx382_2
             have HR382_1 := Aside0.mk hi382_1
             have HC382_1 := Aside0.mk hl382_1
             clear hi382_1 hl382_1
             have HR382_2 := Aside0.mk hi382_2
             have HC382_2 := Aside0.mk hl382_2
             clear hi382_2 hl382_2
             replace p382 := eq_true p382
             replace q382 := eq_true q382
             go_wp2_with (first | ((with_reducible refine gd 12 rfl ?_); (try (refine gate_guard (by rfl) ?_; dsimp only)); refine bx 12 #[.bool false, .slice none 0 0, .slice none 0 0] 70 ?_; intro gb383 hg w95 hbox hb; have BK383 := Aside0.mk hbox; have GW383 := hz HB hg; have GE383 := hz HB hg; have NB372_383 := nl BK372 hg; have NB383_372 := ng BK372 hg; have NB373_383 := nl BK373 hg; have NB383_373 := ng BK373 hg; replace BK372 := kb BK372 hb; replace BK373 := kb BK373 hb; replace HB := hs HB hb; clear hb hbox hg; have hnb96 := NB383_372.out; have hnc96 := NB372_383.out; have hnb97 := NB383_373.out; have hnc97 := NB373_383.out; obtain ⟨_,_,_,_,_,_⟩ := cf3 BK383; have hnb99 := NB372_373.out; have hnc99 := NB373_372.out; obtain ⟨_,_,_,_⟩ := cf2 BK372; obtain ⟨_,_,_,_,_,_,_,_,_,_,_,_,_,_,_,_⟩ := cf8 BK373) | ((with_reducible refine gc 45 rfl ?_); refine gl (some 83) Try.func45 #[.slice A0_0 l0_0.length c0_0, .int .i64 a1_4, .agg #[.bool ((rd_T70 l1_6 x74_3).f0), .slice A382_1 ((rd_T70 l1_6 x74_3).f1).length c382_1, .slice A382_2 ((rd_T70 l1_6 x74_3).f2).length c382_2]] rfl ?_; (with_reducible refine (impl_shapeOk.calls k3 _ _ l0_0 a1_4 ((rd_T70 l1_6 x74_3).f0) _ _ ((rd_T70 l1_6 x74_3).f1) _ _ ((rd_T70 l1_6 x74_3).f2) true _ ?side1 ?side2 ?side3 ?side4 ?side5 ?side6 A93.out).mono ?_); (case side1 => exact cb HR0_0.out); (case side2 => exact HC0_0.out); (case side3 => exact cb HR382_1.out); (case side4 => exact HC382_1.out); (case side5 => exact cb HR382_2.out); (case side6 => exact HC382_2.out); rintro e w102 ⟨rfl, hb⟩; refine ⟨_, rfl, ?_⟩; replace BK372 := kq BK372 hb; replace BK373 := kq BK373 hb; replace BK383 := kp gb383 #[.bool ((rd_T70 l1_6 x74_3).f0), .slice A382_1 ((rd_T70 l1_6 x74_3).f1).length c382_1, .slice A382_2 ((rd_T70 l1_6 x74_3).f2).length c382_2] 70 hb; replace HB := hs HB hb; (try clear hb)))
             go_roundg k3
             case measure => have := HJ3.out; have := HK2.out; have := HK3.out; omega
             case rel => exact ⟨(wrap64 (x74_3 + 1)), (by first | rfl | (simp; done) | (simp [*]; done)), H', ⟨by have := HJ3.out; have := HK2.out; have := HK3.out; omega⟩, kk BK372, kk BK373, ⟨bl⟩⟩
            ·replace c94 := Bool.eq_false_iff.mpr c94
             subst c94
             replace H := ie H
             obtain rfl := Option.some.inj H; clear H
             have p382 : 0 ≤ (x74_3 : Int) := od
             have q382 : x74_3 < (l1_6.length : Int) := od
             obtain ⟨ad382, A382_1, c382_1, A382_2, c382_2, e382, hx382_0, hx382_1, hx382_2, hl382_1, hi382_1, hl382_2, hi382_2⟩ := at_T70 HR1_6.out x74_3 p382 q382
             cases e382
             obtain ⟨hx382_0,hx382_1,hx382_2⟩ := hc3 HB hx382_0 hx382_1 hx382_2
             have HR382_1 := Aside0.mk hi382_1
             have HC382_1 := Aside0.mk hl382_1
             clear hi382_1 hl382_1
             have HR382_2 := Aside0.mk hi382_2
             have HC382_2 := Aside0.mk hl382_2
             clear hi382_2 hl382_2
             replace p382 := eq_true p382
             replace q382 := eq_true q382
             go_wp2_with (first | ((with_reducible refine gd 12 rfl ?_); (try (refine gate_guard (by rfl) ?_; dsimp only)); refine bx 12 #[.bool false, .slice none 0 0, .slice none 0 0] 70 ?_; intro gb383 hg w103 hbox hb; have BK383 := Aside0.mk hbox; have GW383 := hz HB hg; have GE383 := hz HB hg; have NB372_383 := nl BK372 hg; have NB383_372 := ng BK372 hg; have NB373_383 := nl BK373 hg; have NB383_373 := ng BK373 hg; replace BK372 := kb BK372 hb; replace BK373 := kb BK373 hb; replace HB := hs HB hb; clear hb hbox hg; have hnb104 := NB383_372.out; have hnc104 := NB372_383.out; have hnb105 := NB383_373.out; have hnc105 := NB373_383.out; obtain ⟨_,_,_,_,_,_⟩ := cf3 BK383; have hnb107 := NB372_373.out; have hnc107 := NB373_372.out; obtain ⟨_,_,_,_⟩ := cf2 BK372; obtain ⟨_,_,_,_,_,_,_,_,_,_,_,_,_,_,_,_⟩ := cf8 BK373) | ((with_reducible refine gc 45 rfl ?_); refine gl (some 83) Try.func45 #[.slice A0_0 l0_0.length c0_0, .int .i64 a1_4, .agg #[.bool ((rd_T70 l1_6 x74_3).f0), .slice A382_1 ((rd_T70 l1_6 x74_3).f1).length c382_1, .slice A382_2 ((rd_T70 l1_6 x74_3).f2).length c382_2]] rfl ?_; (with_reducible refine (impl_shapeOk.calls k3 _ _ l0_0 a1_4 ((rd_T70 l1_6 x74_3).f0) _ _ ((rd_T70 l1_6 x74_3).f1) _ _ ((rd_T70 l1_6 x74_3).f2) false _ ?side1 ?side2 ?side3 ?side4 ?side5 ?side6 A93.out).mono ?_); (case side1 => exact cb HR0_0.out); (case side2 => exact HC0_0.out); (case side3 => exact cb HR382_1.out); (case side4 => exact HC382_1.out); (case side5 => exact cb HR382_2.out); (case side6 => exact HC382_2.out); rintro e w110 ⟨rfl, hb⟩; refine ⟨_, rfl, ?_⟩; replace BK372 := kq BK372 hb; replace BK373 := kq BK373 hb; replace BK383 := kp gb383 #[.bool ((rd_T70 l1_6 x74_3).f0), .slice A382_1 ((rd_T70 l1_6 x74_3).f1).length c382_1, .slice A382_2 ((rd_T70 l1_6 x74_3).f2).length c382_2] 70 hb; replace HB := hs HB hb; (try clear hb)))
             go_ret
             exact fin
           ·rw [if_neg c92] at H
            exact absurd H (by simp)
          ·rw [if_neg c91] at H
           exact absurd H (by simp)
         ·rw [if_neg c90] at H
          have c90b0 : decide (x74_3 < (l1_6.length : Int)) = false := decide_eq_false c90
          clear c90
          obtain rfl := Option.some.inj H; clear H
          go_wp2
          go_ret
          exact fin
end Go.Proofs.Ytedodaifpekahaa.P

end
section

namespace Go.Proofs.Ytedodaifpekahaa.P
open Go.RowKit Go.Proofs.YtedodaifpekahaaW.PrintWords Go.Proofs.YtedodaifpekahaaW.PrintLast Go.Proofs.YtedodaifpekahaaW.PrintMore
attribute [local go_sem] max2_int min2_int max_two min_two max_three min_three max_four min_four
set_option linter.unusedVariables false
set_option linter.unusedSimpArgs false
set_option maxHeartbeats 8000000 in
set_option maxRecDepth 100000 in
theorem impl_classUp.calls (k : Nat) (A0 : Option Addr) (c0 : Nat) (l0 : List (S76)) (a1 : Int) (a2 : Int) (r : Bool) (w : World) (hr0 : Kd.C k76 w A0 l0.length l0) (hc0 : l0.length ≤ c0) (h : impl_classUp.f k l0 a1 a2 = some r) :
  Calls Try.prog 46 #[.slice A0 l0.length c0, .int .i64 a1, .int .i64 a2] w fun e w' => e = .returned (.bool r) ∧ Drawn0 w w' := by
 have HR0 := Aside0.mk hr0
 have HC0 := Aside0.mk hc0
 clear hr0 hc0
 have H : (impl_classUp.l0 k l0 a2 a1) = some r := h
 clear h
 have H' := Aside0.mk H
 clear H
 go_enter Try.func46, Try.ntmps46
 go_wp2
 go_loopg [7] k (fun kq v7 w' => ∃ (x7_1 : Int), v7 = .int .i64 x7_1 ∧ Aside0 (impl_classUp.l0 kq l0 a2 x7_1 = some r) ∧ Aside0 (kq ≤ k) ∧ Drawn0 w w')
 case atStart => exact ⟨(a1), (by first | rfl | (simp; done) | (simp [*]; done)), H', ⟨Nat.le_refl _⟩, by repeat (first | exact Drawn0.refl _ | apply Drawn0.step)⟩
 case round =>
  clear H'
  obtain ⟨x7_1, rfl, HA, HK1, ⟨m1, rfl⟩⟩ := hrel
  cases gk with
  | zero => exact absurd HA.out (by simp [impl_classUp.l0])
  | succ k1 =>
   have H := HA.out
   clear HA
   simp only [impl_classUp.l0] at H
   by_cases c4 : x7_1 ≥ 0
   ·rw [if_pos c4] at H
    have c4b0 : decide (0 ≤ x7_1) = true := decide_eq_true c4
    clear c4
    by_cases c5 : x7_1 = a2
    ·rw [if_pos c5] at H
     have c5b0 := beq_iff_eq.mpr c5
     have c5b1 := bne_eq_false_iff_eq.mpr c5
     clear c5
     obtain rfl := Option.some.inj H; clear H
     go_wp2
     go_ret
     exact ⟨by first | rfl | (simp; done) | (simp [*]; done), by repeat (first | exact Drawn0.refl _ | apply Drawn0.step)⟩
    ·rw [if_neg c5] at H
     have c5b0 := beq_eq_false_iff_ne.mpr c5
     have c5b1 := bne_iff_ne.mpr c5
     by_cases c6 : 0 ≤ x7_1
     ·rw [if_pos c6] at H
      have c6b0 : decide (0 ≤ x7_1) = true := decide_eq_true c6
      clear c6
      by_cases c7 : x7_1 < (l0.length : Int)
      ·rw [if_pos c7] at H
       have c7b0 : decide (x7_1 < (l0.length : Int)) = true := decide_eq_true c7
       clear c7
       have H' := Aside0.mk H
       clear H
       have p385 : 0 ≤ (x7_1 : Int) := od
       have q385 : x7_1 < (l0.length : Int) := od
       obtain ⟨ad385, A385_1, c385_1, e385, hx385_0, hx385_1, hl385_1, hi385_1⟩ := at_T76 HR0.out x7_1 p385 q385
       cases e385
       have HR385_1 := Aside0.mk hi385_1
       have HC385_1 := Aside0.mk hl385_1
       clear hi385_1 hl385_1
       replace p385 := eq_true p385
       replace q385 := eq_true q385
       go_wp2
       go_roundg k1
       case measure => have := HK1.out; omega
       case rel => exact ⟨((rd_T76 l0 x7_1).f0), (by first | rfl | (simp; done) | (simp [*]; done)), H', ⟨by have := HK1.out; omega⟩, by repeat (first | exact Drawn0.refl _ | apply Drawn0.step)⟩
      ·rw [if_neg c7] at H
       exact absurd H (by simp)
     ·rw [if_neg c6] at H
      exact absurd H (by simp)
   ·rw [if_neg c4] at H
    have c4b0 : decide (0 ≤ x7_1) = false := decide_eq_false c4
    clear c4
    obtain rfl := Option.some.inj H; clear H
    go_wp2
    go_ret
    exact ⟨by first | rfl | (simp; done) | (simp [*]; done), by repeat (first | exact Drawn0.refl _ | apply Drawn0.step)⟩
end Go.Proofs.Ytedodaifpekahaa.P

end
section

namespace Go.Proofs.Ytedodaifpekahaa.P
open Go.RowKit Go.Proofs.YtedodaifpekahaaW.PrintWords Go.Proofs.YtedodaifpekahaaW.PrintLast Go.Proofs.YtedodaifpekahaaW.PrintMore
attribute [local go_sem] max2_int min2_int max_two min_two max_three min_three max_four min_four
set_option linter.unusedVariables false
set_option linter.unusedSimpArgs false
set_option maxHeartbeats 8000000 in
set_option maxRecDepth 100000 in
theorem impl_catchesOk.calls (k : Nat) (A0_0 : Option Addr) (c0_0 : Nat) (l0_0 : List (S76)) (A0_1 : Option Addr) (c0_1 : Nat) (l0_1 : List (S46)) (a1_0 : Int) (a1_1 : Int) (A1_2 : Option Addr) (c1_2 : Nat) (l1_2 : List Int) (a1_3 : Int) (a1_4 : Int) (A1_5 : Option Addr) (c1_5 : Nat) (l1_5 : List (S67)) (A1_6 : Option Addr) (c1_6 : Nat) (l1_6 : List (S70)) (A1_7 : Option Addr) (c1_7 : Nat) (l1_7 : List (S73)) (r : Bool) (w : World) (hr0_0 : Kd.C k76 w A0_0 l0_0.length l0_0) (hc0_0 : l0_0.length ≤ c0_0) (hr0_1 : Kd.C k46 w A0_1 l0_1.length l0_1) (hc0_1 : l0_1.length ≤ c0_1) (hr1_2 : Kd.C (Kd.int .i64) w A1_2 l1_2.length l1_2) (hc1_2 : l1_2.length ≤ c1_2) (hr1_5 : Kd.C k67 w A1_5 l1_5.length l1_5) (hc1_5 : l1_5.length ≤ c1_5) (hr1_6 : Kd.C k70 w A1_6 l1_6.length l1_6) (hc1_6 : l1_6.length ≤ c1_6) (hr1_7 : Kd.C k73 w A1_7 l1_7.length l1_7) (hc1_7 : l1_7.length ≤ c1_7) (h : impl_catchesOk.f k l0_0 l0_1 a1_0 a1_1 l1_2 a1_3 a1_4 l1_5 l1_6 l1_7 = some r) :
  Calls Try.prog 24 #[.agg #[.slice A0_0 l0_0.length c0_0, .slice A0_1 l0_1.length c0_1], .agg #[.int .i64 a1_0, .int .i64 a1_1, .slice A1_2 l1_2.length c1_2, .int .i64 a1_3, .int .i64 a1_4, .slice A1_5 l1_5.length c1_5, .slice A1_6 l1_6.length c1_6, .slice A1_7 l1_7.length c1_7]] w fun e w' => e = .returned (.bool r) ∧ Below w.heap.size w w' := by
 have hu31 := Try.underlying31
 have hu46 := Try.underlying46
 have hu73 := Try.underlying73
 have HR0_0 := Aside0.mk hr0_0
 have HC0_0 := Aside0.mk hc0_0
 clear hr0_0 hc0_0
 have HR0_1 := Aside0.mk hr0_1
 have HC0_1 := Aside0.mk hc0_1
 clear hr0_1 hc0_1
 have HR1_2 := Aside0.mk hr1_2
 have HC1_2 := Aside0.mk hc1_2
 clear hr1_2 hc1_2
 have HR1_5 := Aside0.mk hr1_5
 have HC1_5 := Aside0.mk hc1_5
 clear hr1_5 hc1_5
 have HR1_6 := Aside0.mk hr1_6
 have HC1_6 := Aside0.mk hc1_6
 clear hr1_6 hc1_6
 have HR1_7 := Aside0.mk hr1_7
 have HC1_7 := Aside0.mk hc1_7
 clear hr1_7 hc1_7
 have HB := Aside0.mk (Below.refl w.heap.size w)
 have H : (if (l1_7.length : Int) > 2 then (some false) else (impl_catchesOk.l0 k l1_7 (l1_7.length : Int) 0 l0_0 l0_1 a1_0 a1_1 l1_2 a1_3 a1_4 l1_5 l1_6 l1_7)) = some r := h
 clear h
 by_cases c3 : (l1_7.length : Int) > 2
 ·rw [if_pos c3] at H
  have c3b0 : decide (2 < (l1_7.length : Int)) = true := decide_eq_true c3
  have c3b1 : decide (2 < l1_7.length) = true := decide_eq_true (by omega)
  clear c3
  obtain rfl := Option.some.inj H; clear H
  go_enter Try.func24, Try.ntmps24
  go_wp2
  go_ret
  exact fin
 ·rw [if_neg c3] at H
  have c3b0 : decide (2 < (l1_7.length : Int)) = false := decide_eq_false c3
  have c3b1 : decide (2 < l1_7.length) = false := decide_eq_false (by omega)
  clear c3
  have H' := Aside0.mk H
  clear H
  go_enter Try.func24, Try.ntmps24
  go_wp2_with (first | ((with_reducible refine gd 2 rfl ?_); (try (refine gate_guard (by rfl) ?_; dsimp only)); refine bx 2 #[.slice A0_0 l0_0.length c0_0, .slice A0_1 l0_1.length c0_1] 31 ?_; intro gb386 hg w8 hbox hb; have BK386 := Aside0.mk hbox; have GW386 := hz HB hg; have GE386 := hz HB hg; replace HB := hs HB hb; clear hb hbox hg) | ((with_reducible refine gd 3 rfl ?_); (try (refine gate_guard (by rfl) ?_; dsimp only)); refine bx 3 #[.int .i64 a1_0, .int .i64 a1_1, .slice A1_2 l1_2.length c1_2, .int .i64 a1_3, .int .i64 a1_4, .slice A1_5 l1_5.length c1_5, .slice A1_6 l1_6.length c1_6, .slice A1_7 l1_7.length c1_7] 46 ?_; intro gb387 hg w9 hbox hb; have BK387 := Aside0.mk hbox; have GW387 := hz HB hg; have GE387 := hz HB hg; have NB386_387 := nl BK386 hg; have NB387_386 := ng BK386 hg; replace BK386 := kb BK386 hb; replace HB := hs HB hb; clear hb hbox hg; have hnb10 := NB387_386.out; have hnc10 := NB386_387.out; obtain ⟨_,_,_,_,_,_,_,_,_,_,_,_,_,_,_,_⟩ := cf8 BK387))
  go_loopg [14] k (fun kq v14 w' => ∃ (x14_1 : Int), v14 = .int .i64 x14_1 ∧ Aside0 (impl_catchesOk.l0 kq l1_7 (l1_7.length : Int) x14_1 l0_0 l0_1 a1_0 a1_1 l1_2 a1_3 a1_4 l1_5 l1_6 l1_7 = some r) ∧ Aside0 (kq ≤ k) ∧ Aside0 (w'.heap[gb386]? = some (.cells #[(.slice A0_0 l0_0.length c0_0), (.slice A0_1 l0_1.length c0_1)] 31 (0, 0))) ∧ Aside0 (w'.heap[gb387]? = some (.cells #[.int .i64 a1_0, .int .i64 a1_1, (.slice A1_2 l1_2.length c1_2), .int .i64 a1_3, .int .i64 a1_4, (.slice A1_5 l1_5.length c1_5), (.slice A1_6 l1_6.length c1_6), (.slice A1_7 l1_7.length c1_7)] 46 (0, 0))) ∧ Aside0 (Below w.heap.size w w'))
  case atStart => exact ⟨(0), (by first | rfl | (simp; done) | (simp [*]; done)), H', ⟨Nat.le_refl _⟩, kk BK386, kk BK387, ⟨bl⟩⟩
  case round =>
   clear H'
   obtain ⟨x14_1, rfl, HA, HK1, BK386, BK387, HB⟩ := hrel
   cases gk with
   | zero => exact absurd HA.out (by simp [impl_catchesOk.l0])
   | succ k1 =>
    have H := HA.out
    clear HA
    simp only [impl_catchesOk.l0] at H
    by_cases c12 : x14_1 < (l1_7.length : Int)
    ·rw [if_pos c12] at H
     have c12b0 : decide (x14_1 < (l1_7.length : Int)) = true := decide_eq_true c12
     clear c12
     by_cases c13 : 0 ≤ x14_1
     ·rw [if_pos c13] at H
      have c13b0 : decide (0 ≤ x14_1) = true := decide_eq_true c13
      clear c13
      by_cases c14 : x14_1 < (l1_7.length : Int)
      ·rw [if_pos c14] at H
       have c14b0 : decide (x14_1 < (l1_7.length : Int)) = true := decide_eq_true c14
       clear c14
       have HC15 := Aside0.mk H
       clear H
       have p388 : 0 ≤ (x14_1 : Int) := od
       have q388 : x14_1 < (l1_7.length : Int) := od
       obtain ⟨ad388, e388, hx388_0, hx388_1, hx388_2, hx388_3⟩ := at_T73 HR1_7.out x14_1 p388 q388
       cases e388
       obtain ⟨hx388_0,hx388_1,hx388_2,hx388_3⟩ := hc4 HB hx388_0 hx388_1 hx388_2 hx388_3
       replace p388 := eq_true p388
       replace q388 := eq_true q388
       go_upto_region 6 with (first | ((with_reducible refine gd 6 rfl ?_); (try (refine gate_guard (by rfl) ?_; dsimp only)); refine bx 6 #[.int .i64 0, .int .i64 0, .int .i64 0, .int .i64 0] 73 ?_; intro gb389 hg w16 hbox hb; have BK389 := Aside0.mk hbox; have GW389 := hz HB hg; have GE389 := hz HB hg; have NB386_389 := nl BK386 hg; have NB389_386 := ng BK386 hg; have NB387_389 := nl BK387 hg; have NB389_387 := ng BK387 hg; replace BK386 := kb BK386 hb; replace BK387 := kb BK387 hb; replace HB := hs HB hb; clear hb hbox hg; have hnb17 := NB389_386.out; have hnc17 := NB386_389.out; have hnb18 := NB389_387.out; have hnc18 := NB387_389.out; obtain ⟨_,_,_,_,_,_,_,_⟩ := cf4 BK389))
       (try simp only [Act.put, List.setIfInBounds_toArray, List.set_cons_zero, List.set_cons_succ])
       go_cut [41] (fun v41 wc => ∃ (kq : Nat) (x41_14 : Bool), v41 = .bool x41_14 ∧ Aside0 (impl_catchesOk.j1 kq l1_7 (l1_7.length : Int) x14_1 x41_14 l0_0 l0_1 a1_0 a1_1 l1_2 a1_3 a1_4 l1_5 l1_6 l1_7 ((rd_T73 l1_7 x14_1).f0) ((rd_T73 l1_7 x14_1).f1) ((rd_T73 l1_7 x14_1).f2) ((rd_T73 l1_7 x14_1).f3) = some r) ∧ Aside0 (kq ≤ k1) ∧ Aside0 (wc.heap[gb386]? = some (.cells #[(.slice A0_0 l0_0.length c0_0), (.slice A0_1 l0_1.length c0_1)] 31 (0, 0))) ∧ Aside0 (wc.heap[gb387]? = some (.cells #[.int .i64 a1_0, .int .i64 a1_1, (.slice A1_2 l1_2.length c1_2), .int .i64 a1_3, .int .i64 a1_4, (.slice A1_5 l1_5.length c1_5), (.slice A1_6 l1_6.length c1_6), (.slice (some ad388) l1_7.length c1_7)] 46 (0, 0))) ∧ Aside0 (wc.heap[gb389]? = some (.cells #[.int .i64 ((rd_T73 l1_7 x14_1).f0), .int .i64 ((rd_T73 l1_7 x14_1).f1), .int .i64 ((rd_T73 l1_7 x14_1).f2), .int .i64 ((rd_T73 l1_7 x14_1).f3)] 73 (0, 0))) ∧ Aside0 (Below w.heap.size w wc))
       case first =>
        have H := HC15.out
        clear HC15
        by_cases c20 : ((rd_T73 l1_7 x14_1).f0) < 0
        ·rw [if_pos c20] at H
         have c20b0 : decide (((rd_T73 l1_7 x14_1).f0) < 0) = true := decide_eq_true c20
         clear c20
         (first | rw [c20b0] | (simp only [i64_w, i32_w]; rw [c20b0]) | skip)
         have H' := Aside0.mk H
         clear H
         have hnb21 := NB389_386.out
         have hnc21 := NB386_389.out
         have hnb22 := NB389_387.out
         have hnc22 := NB387_389.out
         obtain ⟨_,_,_,_,_,_,_,_⟩ := cf4 BK389
         go_wp2
         go_meet
         case rel => exact ⟨_, (true), (by first | rfl | (simp; done) | (simp [*]; done)), H', ⟨by have := HK1.out; first | omega | exact Nat.le_refl _⟩, kf, kf, kf, ⟨bl⟩⟩
        ·rw [if_neg c20] at H
         have c20b0 : decide (((rd_T73 l1_7 x14_1).f0) < 0) = false := decide_eq_false c20
         clear c20
         (first | rw [c20b0] | (simp only [i64_w, i32_w]; rw [c20b0]) | skip)
         by_cases c24 : ((rd_T73 l1_7 x14_1).f0) ≥ (l1_5.length : Int)
         ·rw [if_pos c24] at H
          have c24b0 : decide ((l1_5.length : Int) ≤ ((rd_T73 l1_7 x14_1).f0)) = true := decide_eq_true c24
          clear c24
          have H' := Aside0.mk H
          clear H
          have hnb25 := NB389_386.out
          have hnc25 := NB386_389.out
          have hnb26 := NB389_387.out
          have hnc26 := NB387_389.out
          obtain ⟨_,_,_,_,_,_,_,_⟩ := cf4 BK389
          have hnb28 := NB387_386.out
          have hnc28 := NB386_387.out
          obtain ⟨_,_,_,_,_,_,_,_,_,_,_,_,_,_,_,_⟩ := cf8 BK387
          go_wp2
          go_meet
          case rel => exact ⟨_, (true), (by first | rfl | (simp; done) | (simp [*]; done)), H', ⟨by have := HK1.out; first | omega | exact Nat.le_refl _⟩, kf, kf, kf, ⟨bl⟩⟩
         ·rw [if_neg c24] at H
          have c24b0 : decide ((l1_5.length : Int) ≤ ((rd_T73 l1_7 x14_1).f0)) = false := decide_eq_false c24
          clear c24
          by_cases c30 : ((rd_T73 l1_7 x14_1).f2) < 0
          ·rw [if_pos c30] at H
           have c30b0 : decide (((rd_T73 l1_7 x14_1).f2) < 0) = true := decide_eq_true c30
           clear c30
           have H' := Aside0.mk H
           clear H
           have hnb31 := NB389_386.out
           have hnc31 := NB386_389.out
           have hnb32 := NB389_387.out
           have hnc32 := NB387_389.out
           obtain ⟨_,_,_,_,_,_,_,_⟩ := cf4 BK389
           have hnb34 := NB387_386.out
           have hnc34 := NB386_387.out
           obtain ⟨_,_,_,_,_,_,_,_,_,_,_,_,_,_,_,_⟩ := cf8 BK387
           go_wp2
           go_meet
           case rel => exact ⟨_, (true), (by first | rfl | (simp; done) | (simp [*]; done)), H', ⟨by have := HK1.out; first | omega | exact Nat.le_refl _⟩, kf, kf, kf, ⟨bl⟩⟩
          ·rw [if_neg c30] at H
           have c30b0 : decide (((rd_T73 l1_7 x14_1).f2) < 0) = false := decide_eq_false c30
           clear c30
           have H' := Aside0.mk H
           clear H
           have hnb36 := NB389_386.out
           have hnc36 := NB386_389.out
           have hnb37 := NB389_387.out
           have hnc37 := NB387_389.out
           obtain ⟨_,_,_,_,_,_,_,_⟩ := cf4 BK389
           have hnb39 := NB387_386.out
           have hnc39 := NB386_387.out
           obtain ⟨_,_,_,_,_,_,_,_,_,_,_,_,_,_,_,_⟩ := cf8 BK387
           go_wp2
           go_meet
           case rel => exact ⟨_, (decide (((rd_T73 l1_7 x14_1).f2) ≥ (l1_5.length : Int))), (by first | rfl | (simp; done) | (simp [*]; done)), H', ⟨by have := HK1.out; first | omega | exact Nat.le_refl _⟩, kf, kf, kf, ⟨bl⟩⟩
       case rest =>
        clear HC15
        obtain ⟨kq, x41_14, rfl, HA, HJ14, BK386, BK387, BK389, HB⟩ := hcut
        cases kq with
        | zero => exact absurd HA.out (by simp [impl_catchesOk.j1])
        | succ kj14 =>
         have H := HA.out
         clear HA
         simp only [impl_catchesOk.j1] at H
         by_cases c41 : x41_14 = true
         ·subst c41
          replace H := it H
          obtain rfl := Option.some.inj H; clear H
          go_wp2
          go_ret
          exact fin
         ·replace c41 := Bool.eq_false_iff.mpr c41
          subst c41
          replace H := ie H
          have HC42 := Aside0.mk H
          clear H
          go_upto_region 8 with (fail)
          go_cut [54] (fun v54 wc => ∃ (kq : Nat) (x54_41 : Bool), v54 = .bool x54_41 ∧ Aside0 (impl_catchesOk.j2 kq l1_7 (l1_7.length : Int) x14_1 x54_41 l0_0 l0_1 a1_0 a1_1 l1_2 a1_3 a1_4 l1_5 l1_6 l1_7 ((rd_T73 l1_7 x14_1).f0) ((rd_T73 l1_7 x14_1).f1) ((rd_T73 l1_7 x14_1).f2) ((rd_T73 l1_7 x14_1).f3) = some r) ∧ Aside0 (kq ≤ kj14) ∧ Aside0 (wc.heap[gb386]? = some (.cells #[(.slice A0_0 l0_0.length c0_0), (.slice A0_1 l0_1.length c0_1)] 31 (0, 0))) ∧ Aside0 (wc.heap[gb387]? = some (.cells #[.int .i64 a1_0, .int .i64 a1_1, (.slice A1_2 l1_2.length c1_2), .int .i64 a1_3, .int .i64 a1_4, (.slice A1_5 l1_5.length c1_5), (.slice A1_6 l1_6.length c1_6), (.slice (some ad388) l1_7.length c1_7)] 46 (0, 0))) ∧ Aside0 (wc.heap[gb389]? = some (.cells #[.int .i64 ((rd_T73 l1_7 x14_1).f0), .int .i64 ((rd_T73 l1_7 x14_1).f1), .int .i64 ((rd_T73 l1_7 x14_1).f2), .int .i64 ((rd_T73 l1_7 x14_1).f3)] 73 (0, 0))) ∧ Aside0 (Below w.heap.size w wc))
          case first =>
           have H := HC42.out
           clear HC42
           by_cases c43 : ((rd_T73 l1_7 x14_1).f1) ≤ ((rd_T73 l1_7 x14_1).f0)
           ·rw [if_pos c43] at H
            have c43b0 : decide (((rd_T73 l1_7 x14_1).f1) ≤ ((rd_T73 l1_7 x14_1).f0)) = true := decide_eq_true c43
            clear c43
            (first | rw [c43b0] | (simp only [i64_w, i32_w]; rw [c43b0]) | skip)
            have H' := Aside0.mk H
            clear H
            have hnb44 := NB389_386.out
            have hnc44 := NB386_389.out
            have hnb45 := NB389_387.out
            have hnc45 := NB387_389.out
            obtain ⟨_,_,_,_,_,_,_,_⟩ := cf4 BK389
            go_wp2
            go_meet
            case rel => exact ⟨_, (true), (by first | rfl | (simp; done) | (simp [*]; done)), H', ⟨by have := HK1.out; have := HJ14.out; first | omega | exact Nat.le_refl _⟩, kk BK386, kk BK387, kk BK389, ⟨bl⟩⟩
           ·rw [if_neg c43] at H
            have c43b0 : decide (((rd_T73 l1_7 x14_1).f1) ≤ ((rd_T73 l1_7 x14_1).f0)) = false := decide_eq_false c43
            clear c43
            (first | rw [c43b0] | (simp only [i64_w, i32_w]; rw [c43b0]) | skip)
            have H' := Aside0.mk H
            clear H
            have hnb47 := NB389_386.out
            have hnc47 := NB386_389.out
            have hnb48 := NB389_387.out
            have hnc48 := NB387_389.out
            obtain ⟨_,_,_,_,_,_,_,_⟩ := cf4 BK389
            have hnb50 := NB387_386.out
            have hnc50 := NB386_387.out
            obtain ⟨_,_,_,_,_,_,_,_,_,_,_,_,_,_,_,_⟩ := cf8 BK387
            go_wp2
            go_meet
            case rel => exact ⟨_, (decide (((rd_T73 l1_7 x14_1).f1) > (l1_5.length : Int))), (by first | rfl | (simp; done) | (simp [*]; done)), H', ⟨by have := HK1.out; have := HJ14.out; first | omega | exact Nat.le_refl _⟩, kk BK386, kk BK387, kk BK389, ⟨bl⟩⟩
          case rest =>
           clear HC42
           obtain ⟨kq, x54_41, rfl, HA, HJ41, BK386, BK387, BK389, HB⟩ := hcut
           cases kq with
           | zero => exact absurd HA.out (by simp [impl_catchesOk.j2])
           | succ kj41 =>
            have H := HA.out
            clear HA
            simp only [impl_catchesOk.j2] at H
            by_cases c52 : x54_41 = true
            ·subst c52
             replace H := it H
             obtain rfl := Option.some.inj H; clear H
             go_wp2
             go_ret
             exact fin
            ·replace c52 := Bool.eq_false_iff.mpr c52
             subst c52
             replace H := ie H
             obtain ⟨t390, A53, H⟩ := ob H
             by_cases c54 : t390 = true
             ·subst c54
              replace H := it H
              obtain ⟨t391, A55, H⟩ := ob H
              by_cases c56 : t391 = true
              ·subst c56
               replace H := it H
               have H' := Aside0.mk H
               clear H
               have hnb57 := NB386_387.out
               have hnc57 := NB387_386.out
               have hnb58 := NB386_389.out
               have hnc58 := NB389_386.out
               obtain ⟨_,_,_,_⟩ := cf2 BK386
               have hnb60 := NB389_387.out
               have hnc60 := NB387_389.out
               obtain ⟨_,_,_,_,_,_,_,_⟩ := cf4 BK389
               go_wp2_with (first | ((with_reducible refine gc 29 rfl ?_); refine gl (some 59) Try.func29 #[.slice A0_0 l0_0.length c0_0, .int .i64 ((rd_T73 l1_7 x14_1).f3)] rfl ?_; (with_reducible refine (impl_isClass.calls _ _ l0_0 ((rd_T73 l1_7 x14_1).f3) true _ ?side1 ?side2 A53.out).mono ?_); (case side1 => exact cb HR0_0.out); (case side2 => exact HC0_0.out); rintro e w' ⟨rfl, ⟨nd, rfl⟩⟩; refine ⟨_, rfl, ?_⟩) | (go_at_call 46; (with_reducible refine (impl_classUp.calls kj41 _ _ l0_0 ((rd_T73 l1_7 x14_1).f3) 1 true _ ?side1 ?side2 A55.out).mono ?_); (case side1 => exact cb HR0_0.out); (case side2 => exact HC0_0.out); rintro e w' ⟨rfl, ⟨nd, rfl⟩⟩))
               go_roundg kj41
               case measure => have := HK1.out; have := HJ14.out; have := HJ41.out; omega
               case rel => exact ⟨(wrap64 (x14_1 + 1)), (by first | rfl | (simp; done) | (simp [*]; done)), H', ⟨by have := HK1.out; have := HJ14.out; have := HJ41.out; omega⟩, kk BK386, kk BK387, ⟨bl⟩⟩
              ·replace c56 := Bool.eq_false_iff.mpr c56
               subst c56
               replace H := ie H
               obtain rfl := Option.some.inj H; clear H
               have hnb62 := NB386_387.out
               have hnc62 := NB387_386.out
               have hnb63 := NB386_389.out
               have hnc63 := NB389_386.out
               obtain ⟨_,_,_,_⟩ := cf2 BK386
               have hnb65 := NB389_387.out
               have hnc65 := NB387_389.out
               obtain ⟨_,_,_,_,_,_,_,_⟩ := cf4 BK389
               go_wp2_with (first | ((with_reducible refine gc 29 rfl ?_); refine gl (some 59) Try.func29 #[.slice A0_0 l0_0.length c0_0, .int .i64 ((rd_T73 l1_7 x14_1).f3)] rfl ?_; (with_reducible refine (impl_isClass.calls _ _ l0_0 ((rd_T73 l1_7 x14_1).f3) true _ ?side1 ?side2 A53.out).mono ?_); (case side1 => exact cb HR0_0.out); (case side2 => exact HC0_0.out); rintro e w' ⟨rfl, ⟨nd, rfl⟩⟩; refine ⟨_, rfl, ?_⟩) | (go_at_call 46; (with_reducible refine (impl_classUp.calls kj41 _ _ l0_0 ((rd_T73 l1_7 x14_1).f3) 1 false _ ?side1 ?side2 A55.out).mono ?_); (case side1 => exact cb HR0_0.out); (case side2 => exact HC0_0.out); rintro e w' ⟨rfl, ⟨nd, rfl⟩⟩))
               go_ret
               exact fin
             ·replace c54 := Bool.eq_false_iff.mpr c54
              subst c54
              replace H := ie H
              obtain rfl := Option.some.inj H; clear H
              have hnb67 := NB386_387.out
              have hnc67 := NB387_386.out
              have hnb68 := NB386_389.out
              have hnc68 := NB389_386.out
              obtain ⟨_,_,_,_⟩ := cf2 BK386
              have hnb70 := NB389_387.out
              have hnc70 := NB387_389.out
              obtain ⟨_,_,_,_,_,_,_,_⟩ := cf4 BK389
              go_wp2_with (first | ((with_reducible refine gc 29 rfl ?_); refine gl (some 59) Try.func29 #[.slice A0_0 l0_0.length c0_0, .int .i64 ((rd_T73 l1_7 x14_1).f3)] rfl ?_; (with_reducible refine (impl_isClass.calls _ _ l0_0 ((rd_T73 l1_7 x14_1).f3) false _ ?side1 ?side2 A53.out).mono ?_); (case side1 => exact cb HR0_0.out); (case side2 => exact HC0_0.out); rintro e w' ⟨rfl, ⟨nd, rfl⟩⟩; refine ⟨_, rfl, ?_⟩))
              go_ret
              exact fin
      ·rw [if_neg c14] at H
       exact absurd H (by simp)
     ·rw [if_neg c13] at H
      exact absurd H (by simp)
    ·rw [if_neg c12] at H
     have c12b0 : decide (x14_1 < (l1_7.length : Int)) = false := decide_eq_false c12
     clear c12
     obtain rfl := Option.some.inj H; clear H
     go_wp2
     go_ret
     exact fin
end Go.Proofs.Ytedodaifpekahaa.P

end
section

namespace Go.Proofs.Ytedodaifpekahaa.P
open Go.RowKit Go.Proofs.YtedodaifpekahaaW.PrintWords Go.Proofs.YtedodaifpekahaaW.PrintLast Go.Proofs.YtedodaifpekahaaW.PrintMore
attribute [local go_sem] max2_int min2_int max_two min_two max_three min_three max_four min_four
set_option linter.unusedVariables false
set_option linter.unusedSimpArgs false
set_option maxHeartbeats 8000000 in
set_option maxRecDepth 100000 in
theorem slices_Equal_int_int.calls (k : Nat) (A0 : Option Addr) (c0 : Nat) (l0 : List Int) (A1 : Option Addr) (c1 : Nat) (l1 : List Int) (r : Bool) (w : World) (hr0 : Kd.C (Kd.int .i64) w A0 l0.length l0) (hc0 : l0.length ≤ c0) (hr1 : Kd.C (Kd.int .i64) w A1 l1.length l1) (hc1 : l1.length ≤ c1) (h : slices_Equal_int_int.f k l0 l1 = some r) :
  Calls Try.prog 47 #[.slice A0 l0.length c0, .slice A1 l1.length c1] w fun e w' => e = .returned (.bool r) ∧ Drawn0 w w' := by
 have HR0 := Aside0.mk hr0
 have HC0 := Aside0.mk hc0
 clear hr0 hc0
 have HR1 := Aside0.mk hr1
 have HC1 := Aside0.mk hc1
 clear hr1 hc1
 have H : (if (l0.length : Int) = (l1.length : Int) then (slices_Equal_int_int.l0 k l0 l1 (l0.length : Int) 0) else (some false)) = some r := h
 clear h
 by_cases c3 : (l0.length : Int) = (l1.length : Int)
 ·rw [if_pos c3] at H
  have c3b0 := beq_iff_eq.mpr c3
  have c3b1 := bne_eq_false_iff_eq.mpr c3
  have c3b2 : (l0.length == l1.length) = true := by first | simpa using c3 | (simp at c3 ⊢; omega)
  clear c3
  have H' := Aside0.mk H
  clear H
  go_enter Try.func47, Try.ntmps47
  go_wp2
  repeat (go_quiet (fail); try go_wp2)
  go_loopg [13] k (fun kq v13 w' => ∃ (x13_1 : Int), v13 = .int .i64 x13_1 ∧ Aside0 (slices_Equal_int_int.l0 kq l0 l1 (l0.length : Int) x13_1 = some r) ∧ Aside0 (kq ≤ k) ∧ Drawn0 w w')
  case atStart => exact ⟨(0), (by first | rfl | (simp; done) | (simp [*]; done)), H', ⟨Nat.le_refl _⟩, by repeat (first | exact Drawn0.refl _ | apply Drawn0.step)⟩
  case round =>
   clear H'
   obtain ⟨x13_1, rfl, HA, HK1, ⟨m1, rfl⟩⟩ := hrel
   cases gk with
   | zero => exact absurd HA.out (by simp [slices_Equal_int_int.l0])
   | succ k1 =>
    have H := HA.out
    clear HA
    simp only [slices_Equal_int_int.l0] at H
    by_cases c4 : x13_1 < (l0.length : Int)
    ·rw [if_pos c4] at H
     have c4b0 : decide (x13_1 < (l0.length : Int)) = true := decide_eq_true c4
     clear c4
     by_cases c5 : 0 ≤ x13_1
     ·rw [if_pos c5] at H
      have c5b0 : decide (0 ≤ x13_1) = true := decide_eq_true c5
      clear c5
      by_cases c6 : x13_1 < (l0.length : Int)
      ·rw [if_pos c6] at H
       have c6b0 : decide (x13_1 < (l0.length : Int)) = true := decide_eq_true c6
       clear c6
       by_cases c7 : x13_1 < (l1.length : Int)
       ·rw [if_pos c7] at H
        have c7b0 : decide (x13_1 < (l1.length : Int)) = true := decide_eq_true c7
        clear c7
        by_cases c8 : (rd l0 x13_1) = (rd l1 x13_1)
        ·rw [if_pos c8] at H
         have c8b0 := beq_iff_eq.mpr c8
         have c8b1 := bne_eq_false_iff_eq.mpr c8
         clear c8
         have H' := Aside0.mk H
         clear H
         have p392 : 0 ≤ (x13_1 : Int) := od
         have q392 : x13_1 < (l0.length : Int) := od
         obtain ⟨ad392, e392, hx392_0⟩ := Kd.at_int HR0.out x13_1 p392 q392
         cases e392
         replace p392 := eq_true p392
         replace q392 := eq_true q392
         have p393 : 0 ≤ (x13_1 : Int) := od
         have q393 : x13_1 < (l1.length : Int) := od
         obtain ⟨ad393, e393, hx393_0⟩ := Kd.at_int HR1.out x13_1 p393 q393
         cases e393
         replace p393 := eq_true p393
         replace q393 := eq_true q393
         go_wp2
         repeat (go_quiet (fail); try go_wp2)
         go_roundg k1
         case measure => have := HK1.out; omega
         case rel => exact ⟨(wrap64 (x13_1 + 1)), (by first | rfl | (simp; done) | (simp [*]; done)), H', ⟨by have := HK1.out; omega⟩, by repeat (first | exact Drawn0.refl _ | apply Drawn0.step)⟩
        ·rw [if_neg c8] at H
         have c8b0 := beq_eq_false_iff_ne.mpr c8
         have c8b1 := bne_iff_ne.mpr c8
         obtain rfl := Option.some.inj H; clear H
         have p392 : 0 ≤ (x13_1 : Int) := od
         have q392 : x13_1 < (l0.length : Int) := od
         obtain ⟨ad392, e392, hx392_0⟩ := Kd.at_int HR0.out x13_1 p392 q392
         cases e392
         replace p392 := eq_true p392
         replace q392 := eq_true q392
         have p393 : 0 ≤ (x13_1 : Int) := od
         have q393 : x13_1 < (l1.length : Int) := od
         obtain ⟨ad393, e393, hx393_0⟩ := Kd.at_int HR1.out x13_1 p393 q393
         cases e393
         replace p393 := eq_true p393
         replace q393 := eq_true q393
         go_wp2
         repeat (go_quiet (fail); try go_wp2)
         go_ret
         exact ⟨by first | rfl | (simp; done) | (simp [*]; done), by repeat (first | exact Drawn0.refl _ | apply Drawn0.step)⟩
       ·rw [if_neg c7] at H
        exact absurd H (by simp)
      ·rw [if_neg c6] at H
       exact absurd H (by simp)
     ·rw [if_neg c5] at H
      exact absurd H (by simp)
    ·rw [if_neg c4] at H
     have c4b0 : decide (x13_1 < (l0.length : Int)) = false := decide_eq_false c4
     clear c4
     obtain rfl := Option.some.inj H; clear H
     go_wp2
     repeat (go_quiet (fail); try go_wp2)
     go_ret
     exact ⟨by first | rfl | (simp; done) | (simp [*]; done), by repeat (first | exact Drawn0.refl _ | apply Drawn0.step)⟩
 ·rw [if_neg c3] at H
  have c3b0 := beq_eq_false_iff_ne.mpr c3
  have c3b1 := bne_iff_ne.mpr c3
  have c3b2 : (l0.length == l1.length) = false := by first | simpa using c3 | (simp at c3 ⊢; omega)
  obtain rfl := Option.some.inj H; clear H
  go_enter Try.func47, Try.ntmps47
  go_wp2
  repeat (go_quiet (fail); try go_wp2)
  go_ret
  exact ⟨by first | rfl | (simp; done) | (simp [*]; done), by repeat (first | exact Drawn0.refl _ | apply Drawn0.step)⟩
end Go.Proofs.Ytedodaifpekahaa.P

end
section

namespace Go.Proofs.Ytedodaifpekahaa.P
open Go.RowKit Go.Proofs.YtedodaifpekahaaW.PrintWords Go.Proofs.YtedodaifpekahaaW.PrintLast Go.Proofs.YtedodaifpekahaaW.PrintMore
attribute [local go_sem] max2_int min2_int max_two min_two max_three min_three max_four min_four
set_option linter.unusedVariables false
set_option linter.unusedSimpArgs false
set_option maxHeartbeats 8000000 in
set_option maxRecDepth 100000 in
theorem impl_agree.calls (k : Nat) (A0_0 : Option Addr) (c0_0 : Nat) (l0_0 : List (S76)) (A0_1 : Option Addr) (c0_1 : Nat) (l0_1 : List (S46)) (r : Bool) (w : World) (hr0_0 : Kd.C k76 w A0_0 l0_0.length l0_0) (hc0_0 : l0_0.length ≤ c0_0) (hr0_1 : Kd.C k46 w A0_1 l0_1.length l0_1) (hc0_1 : l0_1.length ≤ c0_1) (h : impl_agree.f k l0_0 l0_1 = some r) :
  Calls Try.prog 25 #[.agg #[.slice A0_0 l0_0.length c0_0, .slice A0_1 l0_1.length c0_1]] w fun e w' => e = .returned (.bool r) ∧ Below w.heap.size w w' := by
 have hu31 := Try.underlying31
 have hu46 := Try.underlying46
 have HR0_0 := Aside0.mk hr0_0
 have HC0_0 := Aside0.mk hc0_0
 clear hr0_0 hc0_0
 have HR0_1 := Aside0.mk hr0_1
 have HC0_1 := Aside0.mk hc0_1
 clear hr0_1 hc0_1
 have HB := Aside0.mk (Below.refl w.heap.size w)
 have H : (impl_agree.l0 k l0_1 (l0_1.length : Int) 0 l0_0 l0_1) = some r := h
 clear h
 have H' := Aside0.mk H
 clear H
 go_enter Try.func25, Try.ntmps25
 go_wp2_with (first | ((with_reducible refine gd 1 rfl ?_); refine bx 1 #[.slice A0_0 l0_0.length c0_0, .slice A0_1 l0_1.length c0_1] 31 ?_; intro gb394 hg w2 hbox hb; have BK394 := Aside0.mk hbox; have GW394 := hz HB hg; have GE394 := hz HB hg; replace HB := hs HB hb; clear hb hbox hg; obtain ⟨_,_,_,_⟩ := cf2 BK394))
 go_loopg [10] k (fun kq v10 w' => ∃ (x10_1 : Int), v10 = .int .i64 x10_1 ∧ Aside0 (impl_agree.l0 kq l0_1 (l0_1.length : Int) x10_1 l0_0 l0_1 = some r) ∧ Aside0 (kq ≤ k) ∧ Aside0 (w'.heap[gb394]? = some (.cells #[(.slice A0_0 l0_0.length c0_0), (.slice A0_1 l0_1.length c0_1)] 31 (0, 0))) ∧ Aside0 (Below w.heap.size w w'))
 case atStart => exact ⟨(0), (by first | rfl | (simp; done) | (simp [*]; done)), H', ⟨Nat.le_refl _⟩, kk BK394, ⟨bl⟩⟩
 case round =>
  clear H'
  obtain ⟨x10_1, rfl, HA, HK1, BK394, HB⟩ := hrel
  cases gk with
  | zero => exact absurd HA.out (by simp [impl_agree.l0])
  | succ k1 =>
   have H := HA.out
   clear HA
   simp only [impl_agree.l0] at H
   by_cases c4 : x10_1 < (l0_1.length : Int)
   ·rw [if_pos c4] at H
    have c4b0 : decide (x10_1 < (l0_1.length : Int)) = true := decide_eq_true c4
    clear c4
    by_cases c5 : 0 ≤ x10_1
    ·rw [if_pos c5] at H
     have c5b0 : decide (0 ≤ x10_1) = true := decide_eq_true c5
     clear c5
     by_cases c6 : x10_1 < (l0_1.length : Int)
     ·rw [if_pos c6] at H
      have c6b0 : decide (x10_1 < (l0_1.length : Int)) = true := decide_eq_true c6
      clear c6
      have H' := Aside0.mk H
      clear H
      have p395 : 0 ≤ (x10_1 : Int) := od
      have q395 : x10_1 < (l0_1.length : Int) := od
      obtain ⟨ad395, A395_2, c395_2, A395_5, c395_5, A395_6, c395_6, A395_7, c395_7, e395, hx395_0, hx395_1, hx395_2, hx395_3, hx395_4, hx395_5, hx395_6, hx395_7, hl395_2, hi395_2, hl395_5, hi395_5, hl395_6, hi395_6, hl395_7, hi395_7⟩ := at_T46 HR0_1.out x10_1 p395 q395
      cases e395
      obtain ⟨hx395_0,hx395_1,hx395_2,hx395_3,hx395_4,hx395_5,hx395_6,hx395_7⟩ := hc8 HB hx395_0 hx395_1 hx395_2 hx395_3 hx395_4 hx395_5 hx395_6 hx395_7
      have HR395_2 := Aside0.mk hi395_2
      have HC395_2 := Aside0.mk hl395_2
      clear hi395_2 hl395_2
      have HR395_5 := Aside0.mk hi395_5
      have HC395_5 := Aside0.mk hl395_5
      clear hi395_5 hl395_5
      have HR395_6 := Aside0.mk hi395_6
      have HC395_6 := Aside0.mk hl395_6
      clear hi395_6 hl395_6
      have HR395_7 := Aside0.mk hi395_7
      have HC395_7 := Aside0.mk hl395_7
      clear hi395_7 hl395_7
      replace p395 := eq_true p395
      replace q395 := eq_true q395
      go_wp2_with (first | ((with_reducible refine gd 4 rfl ?_); refine bx 4 #[.int .i64 0, .int .i64 0, .slice none 0 0, .int .i64 0, .int .i64 0, .slice none 0 0, .slice none 0 0, .slice none 0 0] 46 ?_; intro gb396 hg w7 hbox hb; have BK396 := Aside0.mk hbox; have GW396 := hz HB hg; have GE396 := hz HB hg; have NB394_396 := nl BK394 hg; have NB396_394 := ng BK394 hg; replace BK394 := kb BK394 hb; replace HB := hs HB hb; clear hb hbox hg; have hnb8 := NB396_394.out; have hnc8 := NB394_396.out; obtain ⟨_,_,_,_,_,_,_,_,_,_,_,_,_,_,_,_⟩ := cf8 BK396; obtain ⟨_,_,_,_⟩ := cf2 BK394))
      go_loopg [18] k1 (fun kq v18 w' => ∃ (x18_2 : Int), v18 = .int .i64 x18_2 ∧ Aside0 (impl_agree.l1 kq x10_1 l0_1 (l0_1.length : Int) x10_1 l0_1 (l0_1.length : Int) x18_2 l0_0 l0_1 ((rd_T46 l0_1 x10_1).f0) ((rd_T46 l0_1 x10_1).f1) ((rd_T46 l0_1 x10_1).f2) ((rd_T46 l0_1 x10_1).f3) ((rd_T46 l0_1 x10_1).f4) ((rd_T46 l0_1 x10_1).f5) ((rd_T46 l0_1 x10_1).f6) ((rd_T46 l0_1 x10_1).f7) = some r) ∧ Aside0 (kq ≤ k1) ∧ Aside0 (w'.heap[gb394]? = some (.cells #[(.slice A0_0 l0_0.length c0_0), (.slice (some ad395) l0_1.length c0_1)] 31 (0, 0))) ∧ Aside0 (w'.heap[gb396]? = some (.cells #[.int .i64 ((rd_T46 l0_1 x10_1).f0), .int .i64 ((rd_T46 l0_1 x10_1).f1), (.slice A395_2 ((rd_T46 l0_1 x10_1).f2).length c395_2), .int .i64 ((rd_T46 l0_1 x10_1).f3), .int .i64 ((rd_T46 l0_1 x10_1).f4), (.slice A395_5 ((rd_T46 l0_1 x10_1).f5).length c395_5), (.slice A395_6 ((rd_T46 l0_1 x10_1).f6).length c395_6), (.slice A395_7 ((rd_T46 l0_1 x10_1).f7).length c395_7)] 46 (0, 0))) ∧ Aside0 (Below w.heap.size w w'))
      case atStart => exact ⟨(0), (by first | rfl | (simp; done) | (simp [*]; done)), H', ⟨Nat.le_refl _⟩, kf, kf, ⟨bl⟩⟩
      case round =>
       clear H'
       obtain ⟨x18_2, rfl, HA, HK2, BK394, BK396, HB⟩ := hrel
       cases gk with
       | zero => exact absurd HA.out (by simp [impl_agree.l1])
       | succ k2 =>
        have H := HA.out
        clear HA
        simp only [impl_agree.l1] at H
        by_cases c11 : x18_2 < (l0_1.length : Int)
        ·rw [if_pos c11] at H
         have c11b0 : decide (x18_2 < (l0_1.length : Int)) = true := decide_eq_true c11
         clear c11
         by_cases c12 : 0 ≤ x18_2
         ·rw [if_pos c12] at H
          have c12b0 : decide (0 ≤ x18_2) = true := decide_eq_true c12
          clear c12
          by_cases c13 : x18_2 < (l0_1.length : Int)
          ·rw [if_pos c13] at H
           have c13b0 : decide (x18_2 < (l0_1.length : Int)) = true := decide_eq_true c13
           clear c13
           have HC14 := Aside0.mk H
           clear H
           have p397 : 0 ≤ (x18_2 : Int) := od
           have q397 : x18_2 < (l0_1.length : Int) := od
           obtain ⟨ad397, A397_2, c397_2, A397_5, c397_5, A397_6, c397_6, A397_7, c397_7, e397, hx397_0, hx397_1, hx397_2, hx397_3, hx397_4, hx397_5, hx397_6, hx397_7, hl397_2, hi397_2, hl397_5, hi397_5, hl397_6, hi397_6, hl397_7, hi397_7⟩ := at_T46 HR0_1.out x18_2 p397 q397
           obtain rfl : ad395 = ad397 := (by injection e397)
           obtain ⟨hx397_0,hx397_1,hx397_2,hx397_3,hx397_4,hx397_5,hx397_6,hx397_7⟩ := hc8 HB hx397_0 hx397_1 hx397_2 hx397_3 hx397_4 hx397_5 hx397_6 hx397_7
           have HR397_2 := Aside0.mk hi397_2
           have HC397_2 := Aside0.mk hl397_2
           clear hi397_2 hl397_2
           have HR397_5 := Aside0.mk hi397_5
           have HC397_5 := Aside0.mk hl397_5
           clear hi397_5 hl397_5
           have HR397_6 := Aside0.mk hi397_6
           have HC397_6 := Aside0.mk hl397_6
           clear hi397_6 hl397_6
           have HR397_7 := Aside0.mk hi397_7
           have HC397_7 := Aside0.mk hl397_7
           clear hi397_7 hl397_7
           replace p397 := eq_true p397
           replace q397 := eq_true q397
           go_upto_region 7 with (first | ((with_reducible refine gd 6 rfl ?_); refine bx 6 #[.int .i64 0, .int .i64 0, .slice none 0 0, .int .i64 0, .int .i64 0, .slice none 0 0, .slice none 0 0, .slice none 0 0] 46 ?_; intro gb398 hg w15 hbox hb; have BK398 := Aside0.mk hbox; have GW398 := hz HB hg; have GE398 := hz HB hg; have NB394_398 := nl BK394 hg; have NB398_394 := ng BK394 hg; have NB396_398 := nl BK396 hg; have NB398_396 := ng BK396 hg; replace BK394 := kb BK394 hb; replace BK396 := kb BK396 hb; replace HB := hs HB hb; clear hb hbox hg; have hnb16 := NB398_394.out; have hnc16 := NB394_398.out; have hnb17 := NB398_396.out; have hnc17 := NB396_398.out; obtain ⟨_,_,_,_,_,_,_,_,_,_,_,_,_,_,_,_⟩ := cf8 BK398))
           (try simp only [Act.put, List.setIfInBounds_toArray, List.set_cons_zero, List.set_cons_succ])
           go_cut [42] (fun v42 wc => ∃ (kq : Nat) (x42_13 : Bool), v42 = .bool x42_13 ∧ Aside0 (impl_agree.j2 kq x10_1 l0_1 (l0_1.length : Int) x10_1 l0_1 (l0_1.length : Int) x18_2 x42_13 l0_0 l0_1 ((rd_T46 l0_1 x10_1).f0) ((rd_T46 l0_1 x10_1).f1) ((rd_T46 l0_1 x10_1).f2) ((rd_T46 l0_1 x10_1).f3) ((rd_T46 l0_1 x10_1).f4) ((rd_T46 l0_1 x10_1).f5) ((rd_T46 l0_1 x10_1).f6) ((rd_T46 l0_1 x10_1).f7) ((rd_T46 l0_1 x18_2).f0) ((rd_T46 l0_1 x18_2).f1) ((rd_T46 l0_1 x18_2).f2) ((rd_T46 l0_1 x18_2).f3) ((rd_T46 l0_1 x18_2).f4) ((rd_T46 l0_1 x18_2).f5) ((rd_T46 l0_1 x18_2).f6) ((rd_T46 l0_1 x18_2).f7) = some r) ∧ Aside0 (kq ≤ k2) ∧ Aside0 (wc.heap[gb394]? = some (.cells #[(.slice A0_0 l0_0.length c0_0), (.slice (some ad395) l0_1.length c0_1)] 31 (0, 0))) ∧ Aside0 (wc.heap[gb396]? = some (.cells #[.int .i64 ((rd_T46 l0_1 x10_1).f0), .int .i64 ((rd_T46 l0_1 x10_1).f1), (.slice A395_2 ((rd_T46 l0_1 x10_1).f2).length c395_2), .int .i64 ((rd_T46 l0_1 x10_1).f3), .int .i64 ((rd_T46 l0_1 x10_1).f4), (.slice A395_5 ((rd_T46 l0_1 x10_1).f5).length c395_5), (.slice A395_6 ((rd_T46 l0_1 x10_1).f6).length c395_6), (.slice A395_7 ((rd_T46 l0_1 x10_1).f7).length c395_7)] 46 (0, 0))) ∧ Aside0 (wc.heap[gb398]? = some (.cells #[.int .i64 ((rd_T46 l0_1 x18_2).f0), .int .i64 ((rd_T46 l0_1 x18_2).f1), (.slice A397_2 ((rd_T46 l0_1 x18_2).f2).length c397_2), .int .i64 ((rd_T46 l0_1 x18_2).f3), .int .i64 ((rd_T46 l0_1 x18_2).f4), (.slice A397_5 ((rd_T46 l0_1 x18_2).f5).length c397_5), (.slice A397_6 ((rd_T46 l0_1 x18_2).f6).length c397_6), (.slice A397_7 ((rd_T46 l0_1 x18_2).f7).length c397_7)] 46 (0, 0))) ∧ Aside0 (Below w.heap.size w wc))
           case first =>
            have H := HC14.out
            clear HC14
            by_cases c19 : x10_1 = x18_2
            ·rw [if_pos c19] at H
             have c19b0 := beq_iff_eq.mpr c19
             have c19b1 := bne_eq_false_iff_eq.mpr c19
             clear c19
             (first | rw [c19b0] | (simp only [i64_w, i32_w]; rw [c19b0]) | skip)
             have H' := Aside0.mk H
             clear H
             go_wp2
             go_meet
             case rel => exact ⟨_, (true), (by first | rfl | (simp; done) | (simp [*]; done)), H', ⟨by have := HK1.out; have := HK2.out; first | omega | exact Nat.le_refl _⟩, kf, kf, kf, ⟨bl⟩⟩
            ·rw [if_neg c19] at H
             have c19b0 := beq_eq_false_iff_ne.mpr c19
             have c19b1 := bne_iff_ne.mpr c19
             (first | rw [c19b0] | (simp only [i64_w, i32_w]; rw [c19b0]) | skip)
             by_cases c20 : ((rd_T46 l0_1 x10_1).f0) < 0
             ·rw [if_pos c20] at H
              have c20b0 : decide (((rd_T46 l0_1 x10_1).f0) < 0) = true := decide_eq_true c20
              clear c20
              have H' := Aside0.mk H
              clear H
              have hnb21 := NB396_394.out
              have hnc21 := NB394_396.out
              have hnb22 := NB396_398.out
              have hnc22 := NB398_396.out
              obtain ⟨_,_,_,_,_,_,_,_,_,_,_,_,_,_,_,_⟩ := cf8 BK396
              go_wp2
              go_meet
              case rel => exact ⟨_, (true), (by first | rfl | (simp; done) | (simp [*]; done)), H', ⟨by have := HK1.out; have := HK2.out; first | omega | exact Nat.le_refl _⟩, kf, kf, kf, ⟨bl⟩⟩
             ·rw [if_neg c20] at H
              have c20b0 : decide (((rd_T46 l0_1 x10_1).f0) < 0) = false := decide_eq_false c20
              clear c20
              by_cases c24 : ((rd_T46 l0_1 x18_2).f0) < 0
              ·rw [if_pos c24] at H
               have c24b0 : decide (((rd_T46 l0_1 x18_2).f0) < 0) = true := decide_eq_true c24
               clear c24
               have H' := Aside0.mk H
               clear H
               have hnb25 := NB396_394.out
               have hnc25 := NB394_396.out
               have hnb26 := NB396_398.out
               have hnc26 := NB398_396.out
               obtain ⟨_,_,_,_,_,_,_,_,_,_,_,_,_,_,_,_⟩ := cf8 BK396
               have hnb28 := NB398_394.out
               have hnc28 := NB394_398.out
               obtain ⟨_,_,_,_,_,_,_,_,_,_,_,_,_,_,_,_⟩ := cf8 BK398
               go_wp2
               go_meet
               case rel => exact ⟨_, (true), (by first | rfl | (simp; done) | (simp [*]; done)), H', ⟨by have := HK1.out; have := HK2.out; first | omega | exact Nat.le_refl _⟩, kf, kf, kf, ⟨bl⟩⟩
              ·rw [if_neg c24] at H
               have c24b0 : decide (((rd_T46 l0_1 x18_2).f0) < 0) = false := decide_eq_false c24
               clear c24
               have H' := Aside0.mk H
               clear H
               have hnb30 := NB396_394.out
               have hnc30 := NB394_396.out
               have hnb31 := NB396_398.out
               have hnc31 := NB398_396.out
               obtain ⟨_,_,_,_,_,_,_,_,_,_,_,_,_,_,_,_⟩ := cf8 BK396
               have hnb33 := NB398_394.out
               have hnc33 := NB394_398.out
               obtain ⟨_,_,_,_,_,_,_,_,_,_,_,_,_,_,_,_⟩ := cf8 BK398
               go_wp2
               go_meet
               case rel => exact ⟨_, ((((rd_T46 l0_1 x10_1).f1) != ((rd_T46 l0_1 x18_2).f1))), (by first | rfl | (simp; done) | (simp [*]; done)), H', ⟨by have := HK1.out; have := HK2.out; first | omega | exact Nat.le_refl _⟩, kf, kf, kf, ⟨bl⟩⟩
           case rest =>
            clear HC14
            obtain ⟨kq, x42_13, rfl, HA, HJ13, BK394, BK396, BK398, HB⟩ := hcut
            cases kq with
            | zero => exact absurd HA.out (by simp [impl_agree.j2])
            | succ kj13 =>
             have H := HA.out
             clear HA
             simp only [impl_agree.j2] at H
             by_cases c35 : x42_13 = true
             ·subst c35
              replace H := it H
              have H' := Aside0.mk H
              clear H
              go_wp2
              go_roundg kj13
              case measure => have := HK1.out; have := HK2.out; have := HJ13.out; omega
              case rel => exact ⟨(wrap64 (x18_2 + 1)), (by first | rfl | (simp; done) | (simp [*]; done)), H', ⟨by have := HK1.out; have := HK2.out; have := HJ13.out; omega⟩, kk BK394, kk BK396, ⟨bl⟩⟩
             ·replace c35 := Bool.eq_false_iff.mpr c35
              subst c35
              replace H := ie H
              by_cases c36 : ((rd_T46 l0_1 x10_1).f0) = ((rd_T46 l0_1 x18_2).f0)
              ·rw [if_pos c36] at H
               have c36b0 := beq_iff_eq.mpr c36
               have c36b1 := bne_eq_false_iff_eq.mpr c36
               clear c36
               obtain rfl := Option.some.inj H; clear H
               have hnb37 := NB396_394.out
               have hnc37 := NB394_396.out
               have hnb38 := NB396_398.out
               have hnc38 := NB398_396.out
               obtain ⟨_,_,_,_,_,_,_,_,_,_,_,_,_,_,_,_⟩ := cf8 BK396
               have hnb40 := NB398_394.out
               have hnc40 := NB394_398.out
               obtain ⟨_,_,_,_,_,_,_,_,_,_,_,_,_,_,_,_⟩ := cf8 BK398
               go_wp2
               go_ret
               exact fin
              ·rw [if_neg c36] at H
               have c36b0 := beq_eq_false_iff_ne.mpr c36
               have c36b1 := bne_iff_ne.mpr c36
               obtain ⟨t399, A42, H⟩ := ob H
               by_cases c43 : t399 = true
               ·subst c43
                replace H := it H
                by_cases c44 : ((rd_T46 l0_1 x10_1).f3) = ((rd_T46 l0_1 x18_2).f3)
                ·rw [if_pos c44] at H
                 have c44b0 := beq_iff_eq.mpr c44
                 have c44b1 := bne_eq_false_iff_eq.mpr c44
                 clear c44
                 obtain ⟨t400, A45, H⟩ := ob H
                 by_cases c46 : t400 = true
                 ·subst c46
                  replace H := it H
                  have H' := Aside0.mk H
                  clear H
                  have hnb47 := NB396_394.out
                  have hnc47 := NB394_396.out
                  have hnb48 := NB396_398.out
                  have hnc48 := NB398_396.out
                  obtain ⟨_,_,_,_,_,_,_,_,_,_,_,_,_,_,_,_⟩ := cf8 BK396
                  have hnb50 := NB398_394.out
                  have hnc50 := NB394_398.out
                  obtain ⟨_,_,_,_,_,_,_,_,_,_,_,_,_,_,_,_⟩ := cf8 BK398
                  obtain ⟨_,_,_,_⟩ := cf2 BK394
                  go_wp2_with (first | ((with_reducible refine gc 46 rfl ?_); refine gl (some 54) Try.func46 #[.slice A0_0 l0_0.length c0_0, .int .i64 ((rd_T46 l0_1 x10_1).f0), .int .i64 ((rd_T46 l0_1 x18_2).f0)] rfl ?_; (with_reducible refine (impl_classUp.calls kj13 _ _ l0_0 ((rd_T46 l0_1 x10_1).f0) ((rd_T46 l0_1 x18_2).f0) true _ ?side1 ?side2 A42.out).mono ?_); (case side1 => exact cb HR0_0.out); (case side2 => exact HC0_0.out); rintro e w' ⟨rfl, ⟨nd, rfl⟩⟩; refine ⟨_, rfl, ?_⟩) | (go_at_call 47; (with_reducible refine (slices_Equal_int_int.calls kj13 _ _ ((rd_T46 l0_1 x10_1).f2) _ _ ((rd_T46 l0_1 x18_2).f2) true _ ?side1 ?side2 ?side3 ?side4 A45.out).mono ?_); (case side1 => exact cb HR395_2.out); (case side2 => exact HC395_2.out); (case side3 => exact cb HR397_2.out); (case side4 => exact HC397_2.out); rintro e w' ⟨rfl, ⟨nd, rfl⟩⟩))
                  go_roundg kj13
                  case measure => have := HK1.out; have := HK2.out; have := HJ13.out; omega
                  case rel => exact ⟨(wrap64 (x18_2 + 1)), (by first | rfl | (simp; done) | (simp [*]; done)), H', ⟨by have := HK1.out; have := HK2.out; have := HJ13.out; omega⟩, kk BK394, kk BK396, ⟨bl⟩⟩
                 ·replace c46 := Bool.eq_false_iff.mpr c46
                  subst c46
                  replace H := ie H
                  obtain rfl := Option.some.inj H; clear H
                  have hnb53 := NB396_394.out
                  have hnc53 := NB394_396.out
                  have hnb54 := NB396_398.out
                  have hnc54 := NB398_396.out
                  obtain ⟨_,_,_,_,_,_,_,_,_,_,_,_,_,_,_,_⟩ := cf8 BK396
                  have hnb56 := NB398_394.out
                  have hnc56 := NB394_398.out
                  obtain ⟨_,_,_,_,_,_,_,_,_,_,_,_,_,_,_,_⟩ := cf8 BK398
                  obtain ⟨_,_,_,_⟩ := cf2 BK394
                  go_wp2_with (first | ((with_reducible refine gc 46 rfl ?_); refine gl (some 54) Try.func46 #[.slice A0_0 l0_0.length c0_0, .int .i64 ((rd_T46 l0_1 x10_1).f0), .int .i64 ((rd_T46 l0_1 x18_2).f0)] rfl ?_; (with_reducible refine (impl_classUp.calls kj13 _ _ l0_0 ((rd_T46 l0_1 x10_1).f0) ((rd_T46 l0_1 x18_2).f0) true _ ?side1 ?side2 A42.out).mono ?_); (case side1 => exact cb HR0_0.out); (case side2 => exact HC0_0.out); rintro e w' ⟨rfl, ⟨nd, rfl⟩⟩; refine ⟨_, rfl, ?_⟩) | (go_at_call 47; (with_reducible refine (slices_Equal_int_int.calls kj13 _ _ ((rd_T46 l0_1 x10_1).f2) _ _ ((rd_T46 l0_1 x18_2).f2) false _ ?side1 ?side2 ?side3 ?side4 A45.out).mono ?_); (case side1 => exact cb HR395_2.out); (case side2 => exact HC395_2.out); (case side3 => exact cb HR397_2.out); (case side4 => exact HC397_2.out); rintro e w' ⟨rfl, ⟨nd, rfl⟩⟩))
                  go_ret
                  exact fin
                ·rw [if_neg c44] at H
                 have c44b0 := beq_eq_false_iff_ne.mpr c44
                 have c44b1 := bne_iff_ne.mpr c44
                 obtain rfl := Option.some.inj H; clear H
                 have hnb59 := NB396_394.out
                 have hnc59 := NB394_396.out
                 have hnb60 := NB396_398.out
                 have hnc60 := NB398_396.out
                 obtain ⟨_,_,_,_,_,_,_,_,_,_,_,_,_,_,_,_⟩ := cf8 BK396
                 have hnb62 := NB398_394.out
                 have hnc62 := NB394_398.out
                 obtain ⟨_,_,_,_,_,_,_,_,_,_,_,_,_,_,_,_⟩ := cf8 BK398
                 obtain ⟨_,_,_,_⟩ := cf2 BK394
                 go_wp2_with (first | ((with_reducible refine gc 46 rfl ?_); refine gl (some 54) Try.func46 #[.slice A0_0 l0_0.length c0_0, .int .i64 ((rd_T46 l0_1 x10_1).f0), .int .i64 ((rd_T46 l0_1 x18_2).f0)] rfl ?_; (with_reducible refine (impl_classUp.calls kj13 _ _ l0_0 ((rd_T46 l0_1 x10_1).f0) ((rd_T46 l0_1 x18_2).f0) true _ ?side1 ?side2 A42.out).mono ?_); (case side1 => exact cb HR0_0.out); (case side2 => exact HC0_0.out); rintro e w' ⟨rfl, ⟨nd, rfl⟩⟩; refine ⟨_, rfl, ?_⟩))
                 go_ret
                 exact fin
               ·replace c43 := Bool.eq_false_iff.mpr c43
                subst c43
                replace H := ie H
                have H' := Aside0.mk H
                clear H
                have hnb65 := NB396_394.out
                have hnc65 := NB394_396.out
                have hnb66 := NB396_398.out
                have hnc66 := NB398_396.out
                obtain ⟨_,_,_,_,_,_,_,_,_,_,_,_,_,_,_,_⟩ := cf8 BK396
                have hnb68 := NB398_394.out
                have hnc68 := NB394_398.out
                obtain ⟨_,_,_,_,_,_,_,_,_,_,_,_,_,_,_,_⟩ := cf8 BK398
                obtain ⟨_,_,_,_⟩ := cf2 BK394
                go_wp2_with (first | ((with_reducible refine gc 46 rfl ?_); refine gl (some 54) Try.func46 #[.slice A0_0 l0_0.length c0_0, .int .i64 ((rd_T46 l0_1 x10_1).f0), .int .i64 ((rd_T46 l0_1 x18_2).f0)] rfl ?_; (with_reducible refine (impl_classUp.calls kj13 _ _ l0_0 ((rd_T46 l0_1 x10_1).f0) ((rd_T46 l0_1 x18_2).f0) false _ ?side1 ?side2 A42.out).mono ?_); (case side1 => exact cb HR0_0.out); (case side2 => exact HC0_0.out); rintro e w' ⟨rfl, ⟨nd, rfl⟩⟩; refine ⟨_, rfl, ?_⟩))
                go_roundg kj13
                case measure => have := HK1.out; have := HK2.out; have := HJ13.out; omega
                case rel => exact ⟨(wrap64 (x18_2 + 1)), (by first | rfl | (simp; done) | (simp [*]; done)), H', ⟨by have := HK1.out; have := HK2.out; have := HJ13.out; omega⟩, kk BK394, kk BK396, ⟨bl⟩⟩
          ·rw [if_neg c13] at H
           exact absurd H (by simp)
         ·rw [if_neg c12] at H
          exact absurd H (by simp)
        ·rw [if_neg c11] at H
         have c11b0 : decide (x18_2 < (l0_1.length : Int)) = false := decide_eq_false c11
         clear c11
         have H' := Aside0.mk H
         clear H
         go_wp2
         go_roundg k2
         case measure => have := HK1.out; have := HK2.out; omega
         case rel => exact ⟨(wrap64 (x10_1 + 1)), (by first | rfl | (simp; done) | (simp [*]; done)), H', ⟨by have := HK1.out; have := HK2.out; omega⟩, kk BK394, ⟨bl⟩⟩
     ·rw [if_neg c6] at H
      exact absurd H (by simp)
    ·rw [if_neg c5] at H
     exact absurd H (by simp)
   ·rw [if_neg c4] at H
    have c4b0 : decide (x10_1 < (l0_1.length : Int)) = false := decide_eq_false c4
    clear c4
    obtain rfl := Option.some.inj H; clear H
    go_wp2
    go_ret
    exact fin
end Go.Proofs.Ytedodaifpekahaa.P

end
section

namespace Go.Proofs.Ytedodaifpekahaa.P
open Go Go.RowKit Go.Proofs.YtedodaifpekahaaW.PrintWords Go.Proofs.YtedodaifpekahaaW.PrintLast Go.Proofs.YtedodaifpekahaaW.PrintMore
set_option linter.unusedVariables false
set_option linter.unusedSimpArgs false
theorem wantEnts_snoc (e : Int × Int × Int) : ∀ (l : List (Int × Int × Int)) (i : Nat), wantEnts (l ++ [e]) i = wantEnts l i ++ [wantE e (i + l.length)]
  | [], i => rfl
  | x :: l, i => by
    show wantE x i :: wantEnts (l ++ [e]) (i + 1) = wantE x i :: (wantEnts l (i + 1) ++ [wantE e (i + (l.length + 1))])
    rw [wantEnts_snoc e l (i + 1), show i + 1 + l.length = i + (l.length + 1) by omega]
section
variable {ops : Array Oper} {rest : List Oper} {o : Oper} {a : Act} {Q : Exit → Act → World → Prop} {W : World}
theorem make_event (hgd : o.guard = none) (hop : o.op = .makeMap 50 none) {w : World} (hB : Below w.heap.size w W)
    (h : ∀ g, g = W.heap.size → ∀ W1, W1.heap[g]? = some (wantsAt 0) → Below w.heap.size w W1 → w.heap.size ≤ g → wpList Try.prog ops Q rest (a.put o.dst (.map (some g))) W1) : wpList Try.prog ops Q (o :: rest) a W := by
  refine Kd.event_run hgd ?_ (h _ rfl _ (blk_new W _) (below_alloc hB _) hB.size)
  unfold execOp
  rw [hop]
  simp only [Option.map, Sem.run_bind, run_makeMap, Result.andThen]
  rfl
theorem insert_event {g m : Nat} {e1 e2 e3 : Int} {x k v : Operand} (hgd : o.guard = none) (hop : o.op = .insert 50 x k v) (hN : o.dst = none) (hx : a.eval x = .map (some g)) (hk : a.eval k = .int .i64 e1) (hv : a.eval v = .agg #[.int .i64 e2, .int .i64 e3])
    (hm : W.heap[g]? = some (wantsAt m)) (hl : wantL.take (m + 1) = wantL.take m ++ [(e1, e2, e3)]) (hlen : (wantL.take m).length = m) (hf : wantFind e1 (wantL.take m) = none) {w : World} (hB : Below w.heap.size w W) (hg : w.heap.size ≤ g)
    (h : ∀ W1, W1.heap[g]? = some (wantsAt (m + 1)) → Below w.heap.size w W1 → wpList Try.prog ops Q rest a W1) : wpList Try.prog ops Q (o :: rest) a W := by
  have hm0 := hm
  unfold wantsAt at hm
  obtain ⟨j, hj⟩ := findNow_want e1 (wantL.take m) 0 0
  rw [hf] at hj
  have hkk : MapKept.IsKey (.int .i64) (.int .i64 e1) := by simp [MapKept.IsKey]
  have hu := Try.underlying50
  have hu3 := Try.underlying3
  have e0 : Obj.map ((wantEnts (wantL.take m) 0).toArray.push { key := .int .i64 e1, val := .agg #[.int .i64 e2, .int .i64 e3], born := m }) (m + 1) = wantsAt (m + 1) := by
    unfold wantsAt
    rw [hl, wantEnts_snoc, hlen, Nat.zero_add, List.push_toArray]
    rfl
  have hrun : (Instr.mapUpdate 50 (.map (some g)) (.int .i64 e1) (.agg #[.int .i64 e2, .int .i64 e3])).run Try.prog W = .ok () { W with heap := W.heap.setIfInBounds g (wantsAt (m + 1)) } := by
    rw [← e0]
    simp [Instr.mapUpdate, run_underlying hu, MapKept.run_getObj_map hm, MapKept.run_checkKey hu3 hkk, MapKept.run_findKey hu3 hj, MapKept.run_setObj_map _ hm, Result.andThen]
  have hh := MapKept.heap_set (o' := wantsAt (m + 1)) hm0
  refine wpList_plain hgd fun K hK => ?_
  unfold Oper.wp
  have hex : (execOp a.eval o).run Try.prog W = .ok .skip { W with heap := W.heap.setIfInBounds g (wantsAt (m + 1)) } := by
    unfold execOp
    rw [hop]
    dsimp only
    rw [hx, hk, hv]
    simp only [Sem.run_bind, hrun, Result.andThen]
    rfl
  rw [hex]
  show K (a.put o.dst undef) _
  rw [hN]
  exact hK _ _ (h _ hh.1 (hB.trans ⟨rfl, rfl, rfl, by simp, fun k_ hk_ => hh.2 k_ (by omega)⟩))
end
set_option maxHeartbeats 8000000 in
set_option maxRecDepth 100000 in
theorem impl_wants.calls (w : World) : Calls Try.prog 21 #[] w fun e w' => ∃ g, e = .returned (.map (some g)) ∧ g = w.heap.size ∧ w'.heap[g]? = some wantsO ∧ Below w.heap.size w w' := by
  have HB := Aside0.mk (Below.refl w.heap.size w)
  go_enter Try.func21, Try.ntmps21
  go_wp2_with (first | ((with_reducible refine gate_dst (N := 1) rfl ?_); refine make_event rfl rfl HB.out ?_; intro gM hg W1 hm_ hb_ hs_; clear HB; have HM := Aside0.mk hm_; have HB := Aside0.mk hb_; have HS := Aside0.mk hs_; have HG := Aside0.mk hg; clear hm_ hb_ hs_ hg) | (refine insert_event rfl rfl rfl rfl rfl rfl HM.out rfl rfl rfl HB.out HS.out ?_; intro W1 hm_ hb_; clear HM HB; have HM := Aside0.mk hm_; have HB := Aside0.mk hb_; clear hm_ hb_))
  go_ret
  exact ⟨_, rfl, HG.out, HM.out, HB.out⟩
end Go.Proofs.Ytedodaifpekahaa.P

end
