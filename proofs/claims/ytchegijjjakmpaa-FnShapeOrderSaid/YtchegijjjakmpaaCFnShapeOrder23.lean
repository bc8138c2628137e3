/- A part of the claim FnShapeOrder: texts of this session and texts that its program printed out of the translation, joined. -/
import Derived.Test.YtchegijjjakmpaaCFnShapeOrder22
import Derived.Test.YtchegijjjakmpaaCFnShapeOrder0
import Derived.Test.YtchegijjjakmpaaCFnShapeOrder1
import Derived.Test.YtchegijjjakmpaaCFnShapeOrder2
import Derived.Test.YtchegijjjakmpaaCFnShapeOrder3
import Derived.Test.YtchegijjjakmpaaCFnShapeOrder4
import Derived.Test.YtchegijjjakmpaaCFnShapeOrder5
import Derived.Test.YtchegijjjakmpaaCFnShapeOrder6
import Derived.Test.YtchegijjjakmpaaCFnShapeOrder7
import Derived.Test.YtchegijjjakmpaaCFnShapeOrder8
import Derived.Test.YtchegijjjakmpaaCFnShapeOrder9
import Derived.Test.YtchegijjjakmpaaCFnShapeOrder10
import Derived.Test.YtchegijjjakmpaaCFnShapeOrder11
import Derived.Test.YtchegijjjakmpaaCFnShapeOrder12
import Derived.Test.YtchegijjjakmpaaCFnShapeOrder13
import Derived.Test.YtchegijjjakmpaaCFnShapeOrder14
import Derived.Test.YtchegijjjakmpaaCFnShapeOrder15
import Derived.Test.YtchegijjjakmpaaCFnShapeOrder16
import Derived.Test.YtchegijjjakmpaaCFnShapeOrder17
import Derived.Test.YtchegijjjakmpaaCFnShapeOrder18
import Derived.Test.YtchegijjjakmpaaCFnShapeOrder19
import Derived.Test.YtchegijjjakmpaaCFnShapeOrder20
import Derived.Test.YtchegijjjakmpaaCFnShapeOrder21
section

namespace Go.Proofs.Ytchegijjjakmpaa.P
open Go.RowKit Go.Proofs.YtchegijjjakmpaaW.PrintWords Go.Proofs.YtchegijjjakmpaaW.PrintLast Go.Proofs.YtchegijjjakmpaaW.PrintMore
attribute [local go_sem] max2_int min2_int max_two min_two max_three min_three max_four min_four
set_option linter.unusedVariables false
set_option linter.unusedSimpArgs false
set_option maxHeartbeats 8000000 in
set_option maxRecDepth 100000 in
theorem spec_l6Rd_pick.calls (k : Nat) (g : Nat) (s0_0 : List Int) (s0_1 : Int) (a1 : Int) (r1 : Int) (r2 : Int) (w0 w : World) (hI : IsS40 w0 w g s0_0 s0_1) (hB : Below w0.heap.size w0 w) (h : spec_l6Rd_pick.f k s0_0 s0_1 a1 = some (r1, r2)) :
  Calls Try.prog 10 #[.pointer (some ⟨g, 0, none⟩), .int .i64 a1] w fun e w' => e = .returned (.int .i64 r1) ∧ IsS40 w0 w' g s0_0 r2 ∧ Below w0.heap.size w0 w' ∧ KeepBut w w' g none := by
 have HI0 := Aside0.mk hI
 have HK := Aside0.mk (KeepBut.refl w g none)
 have HL := Aside0.mk hB.size
 clear hI
 have HW0 := Aside0.mk hB.size
 have HB := Aside0.mk hB
 clear hB
 have H : (if a1 < 1 then (spec_l6Rd_pick.j0 k a1 true s0_0 (wrap64 (s0_1 + 1))) else (spec_l6Rd_pick.j0 k a1 ((s0_0.length : Int) == 0) s0_0 (wrap64 (s0_1 + 1)))) = some (r1, r2) := h
 clear h
 have HC3 := Aside0.mk H
 clear H
 obtain ⟨ASz4_0, cSz4_0, HGz4, hgz4, HSz4_0⟩ := HI0.out
 have hcz4_0 := cellS40_0 HGz4
 have hcz4_1 := cellS40_1 HGz4
 have hfz4_1 := blk_frozen HGz4 1
 clear HGz4 hgz4
 go_enter Try.func10, Try.ntmps10
 go_upto_region 2 with (fail)
 repeat (go_quiet (fail); go_upto_region 2 with (fail))
 go_cut [24] (fun v24 wc => ∃ (kq : Nat) (x24_2 : Bool), v24 = .bool x24_2 ∧ Aside0 (spec_l6Rd_pick.j0 kq a1 x24_2 s0_0 (wrap64 (s0_1 + 1)) = some (r1, r2)) ∧ Aside0 (kq ≤ k) ∧ Aside0 (IsS40 w0 wc g s0_0 (wrap64 (s0_1 + 1))) ∧ Aside0 (KeepBut w wc g none) ∧ Aside0 (Below w0.heap.size w0 wc))
 case first =>
  have H := HC3.out
  clear HC3
  by_cases c5 : a1 < 1
  ·rw [if_pos c5] at H
   have c5b0 : decide (a1 < 1) = true := decide_eq_true c5
   clear c5
   (first | rw [c5b0] | (simp only [i64_w, i32_w]; rw [c5b0]) | skip)
   have H' := Aside0.mk H
   clear H
   go_wp2
   repeat (go_quiet (fail); try go_wp2)
   go_meet
   case rel => exact ⟨_, (true), (by first | rfl | (simp; done) | (simp [*]; done)), H', ⟨by first | omega | exact Nat.le_refl _⟩, ⟨iS⟩, ⟨kU⟩, ⟨bS⟩⟩
  ·rw [if_neg c5] at H
   have c5b0 : decide (a1 < 1) = false := decide_eq_false c5
   clear c5
   (first | rw [c5b0] | (simp only [i64_w, i32_w]; rw [c5b0]) | skip)
   have H' := Aside0.mk H
   clear H
   obtain ⟨ASz6_0, cSz6_0, HGz6, hgz6, HSz6_0⟩ := HI0.out
   have hcz6_0 := cellS40_0 HGz6
   have hcz6_1 := cellS40_1 HGz6
   have hfz6_1 := blk_frozen HGz6 1
   clear HGz6 hgz6
   go_wp2
   repeat (go_quiet (fail); try go_wp2)
   go_meet
   case rel => exact ⟨_, (((s0_0.length : Int) == 0)), (by first | rfl | (simp; done) | (simp [*]; done)), H', ⟨by first | omega | exact Nat.le_refl _⟩, ⟨iS⟩, ⟨kU⟩, ⟨bS⟩⟩
 case rest =>
  clear HC3
  obtain ⟨kq, x24_2, rfl, HA, HJ2, HI0, HK, HB⟩ := hcut
  cases kq with
  | zero => exact absurd HA.out (by simp [spec_l6Rd_pick.j0])
  | succ kj2 =>
   have H := HA.out
   clear HA
   simp only [spec_l6Rd_pick.j0] at H
   by_cases c7 : x24_2 = true
   ·subst c7
    replace H := it H
    simp only [Option.some.injEq, Prod.mk.injEq] at H
    obtain ⟨rfl, rfl⟩ := H
    go_wp2
    repeat (go_quiet (fail); try go_wp2)
    go_ret
    exact ⟨by first | rfl | (simp [errW_none, errW_some] <;> rfl) | (simp [*, errW_none, errW_some] <;> rfl), iS, bS, kU⟩
   ·replace c7 := Bool.eq_false_iff.mpr c7
    subst c7
    replace H := ie H
    by_cases c8 : (wrap64 ((wrap64 (s0_1 + 1)) - 1)) < (s0_0.length : Int)
    ·rw [if_pos c8] at H
     have c8b0 : decide ((wrap64 ((wrap64 (s0_1 + 1)) - 1)) < (s0_0.length : Int)) = true := decide_eq_true c8
     clear c8
     obtain ⟨ji9, hji9⟩ : ∃ j_ : Int, (wrap64 ((wrap64 (s0_1 + 1)) - 1)) = j_ := ⟨_, rfl⟩
     replace H : (if 0 ≤ (ji9) then (if a1 = 0 then (none) else (some (Int.tmod (wrap64 (rd s0_0 (ji9))) a1, (wrap64 (s0_1 + 1))))) else (none)) = some (r1, r2) := by first | (rw [hji9] at H; exact H) | (simp only [hji9] at H ⊢; exact H)
     (try rw [hji9] at c8b0)
     have hji9w : (IntKind.i64.wrap ((wrap64 (s0_1 + 1)) - 1)) = ji9 := (i64_w _).trans hji9
     by_cases c10 : 0 ≤ (ji9)
     ·rw [if_pos c10] at H
      have c10b0 : decide (0 ≤ (ji9)) = true := decide_eq_true c10
      clear c10
      by_cases c11 : a1 = 0
      ·rw [if_pos c11] at H
       exact absurd H (by simp)
      ·rw [if_neg c11] at H
       have c11b0 := beq_eq_false_iff_ne.mpr c11
       have c11b1 := bne_iff_ne.mpr c11
       simp only [Option.some.injEq, Prod.mk.injEq] at H
       obtain ⟨rfl, rfl⟩ := H
       obtain ⟨ASz12_0, cSz12_0, HGz12, hgz12, HSz12_0⟩ := HI0.out
       have hcz12_0 := cellS40_0 HGz12
       have hcz12_1 := cellS40_1 HGz12
       have hfz12_1 := blk_frozen HGz12 1
       clear HGz12 hgz12
       have p104 : 0 ≤ ((ji9) : Int) := od
       have q104 : (ji9) < (s0_0.length : Int) := od
       obtain ⟨ad104, e104, hx104_0⟩ := Kd.at_int HSz12_0 (ji9) p104 q104
       cases e104
       replace hx104_0 := pw_cell_below HB.out hx104_0
       replace p104 := eq_true p104
       replace q104 := eq_true q104
       go_wp2
       repeat (go_quiet (fail); try go_wp2)
       go_ret
       exact ⟨by first | rfl | (simp [errW_none, errW_some] <;> rfl) | (simp only [← hji9]; first | rfl | (simp [errW_none, errW_some] <;> rfl)) | (simp [*, errW_none, errW_some] <;> rfl), iS, bS, kU⟩
     ·rw [if_neg c10] at H
      exact absurd H (by simp)
    ·rw [if_neg c8] at H
     have c8b0 : decide ((wrap64 ((wrap64 (s0_1 + 1)) - 1)) < (s0_0.length : Int)) = false := decide_eq_false c8
     clear c8
     by_cases c13 : (s0_0.length : Int) = 0
     ·rw [if_pos c13] at H
      exact absurd H (by simp)
     ·rw [if_neg c13] at H
      have c13b0 := beq_eq_false_iff_ne.mpr c13
      have c13b1 := bne_iff_ne.mpr c13
      have c13b2 : ¬ (s0_0 = []) := fun h_ => c13 (by rw [h_]; rfl)
      obtain ⟨ji14, hji14⟩ : ∃ j_ : Int, (Int.tmod (wrap64 ((wrap64 (s0_1 + 1)) - 1)) (s0_0.length : Int)) = j_ := ⟨_, rfl⟩
      replace H : (if 0 ≤ (ji14) then (if (ji14) < (s0_0.length : Int) then (if 0 ≤ (Int.tmod (wrap64 ((wrap64 ((wrap64 ((wrap64 (s0_1 + 1)) - 1)) * 7)) + 3)) (s0_0.length : Int)) then (if (Int.tmod (wrap64 ((wrap64 ((wrap64 ((wrap64 (s0_1 + 1)) - 1)) * 7)) + 3)) (s0_0.length : Int)) < (s0_0.length : Int) then (if a1 = 0 then (none) else (some (Int.tmod (Go.bits .xor .i64 (wrap64 ((wrap64 ((wrap64 ((wrap64 ((wrap64 (rd s0_0 (ji14))) * 131)) + (wrap64 ((wrap64 (rd s0_0 (Int.tmod (wrap64 ((wrap64 ((wrap64 ((wrap64 (s0_1 + 1)) - 1)) * 7)) + 3)) (s0_0.length : Int)))) * 1117)))) + (wrap64 ((wrap64 ((wrap64 (s0_1 + 1)) - 1)) * 29)))) + (wrap64 ((wrap64 (Int.tdiv (wrap64 ((wrap64 (s0_1 + 1)) - 1)) (s0_0.length : Int))) * 53)))) (wrap64 (Int.tdiv (wrap64 ((wrap64 ((wrap64 ((wrap64 ((wrap64 (rd s0_0 (ji14))) * 131)) + (wrap64 ((wrap64 (rd s0_0 (Int.tmod (wrap64 ((wrap64 ((wrap64 ((wrap64 (s0_1 + 1)) - 1)) * 7)) + 3)) (s0_0.length : Int)))) * 1117)))) + (wrap64 ((wrap64 ((wrap64 (s0_1 + 1)) - 1)) * 29)))) + (wrap64 ((wrap64 (Int.tdiv (wrap64 ((wrap64 (s0_1 + 1)) - 1)) (s0_0.length : Int))) * 53)))) 64))) a1, (wrap64 (s0_1 + 1))))) else (none)) else (none)) else (none)) else (none)) = some (r1, r2) := by first | (rw [hji14] at H; exact H) | (simp only [hji14] at H ⊢; exact H)
      by_cases c15 : 0 ≤ (ji14)
      ·rw [if_pos c15] at H
       have c15b0 : decide (0 ≤ (ji14)) = true := decide_eq_true c15
       clear c15
       by_cases c16 : (ji14) < (s0_0.length : Int)
       ·rw [if_pos c16] at H
        have c16b0 : decide ((ji14) < (s0_0.length : Int)) = true := decide_eq_true c16
        clear c16
        obtain ⟨ji17, hji17⟩ : ∃ j_ : Int, (Int.tmod (wrap64 ((wrap64 ((wrap64 ((wrap64 (s0_1 + 1)) - 1)) * 7)) + 3)) (s0_0.length : Int)) = j_ := ⟨_, rfl⟩
        replace H : (if 0 ≤ (ji17) then (if (ji17) < (s0_0.length : Int) then (if a1 = 0 then (none) else (some (Int.tmod (Go.bits .xor .i64 (wrap64 ((wrap64 ((wrap64 ((wrap64 ((wrap64 (rd s0_0 (ji14))) * 131)) + (wrap64 ((wrap64 (rd s0_0 (ji17))) * 1117)))) + (wrap64 ((wrap64 ((wrap64 (s0_1 + 1)) - 1)) * 29)))) + (wrap64 ((wrap64 (Int.tdiv (wrap64 ((wrap64 (s0_1 + 1)) - 1)) (s0_0.length : Int))) * 53)))) (wrap64 (Int.tdiv (wrap64 ((wrap64 ((wrap64 ((wrap64 ((wrap64 (rd s0_0 (ji14))) * 131)) + (wrap64 ((wrap64 (rd s0_0 (ji17))) * 1117)))) + (wrap64 ((wrap64 ((wrap64 (s0_1 + 1)) - 1)) * 29)))) + (wrap64 ((wrap64 (Int.tdiv (wrap64 ((wrap64 (s0_1 + 1)) - 1)) (s0_0.length : Int))) * 53)))) 64))) a1, (wrap64 (s0_1 + 1))))) else (none)) else (none)) = some (r1, r2) := by first | (rw [hji17] at H; exact H) | (simp only [hji17] at H ⊢; exact H)
        by_cases c18 : 0 ≤ (ji17)
        ·rw [if_pos c18] at H
         have c18b0 : decide (0 ≤ (ji17)) = true := decide_eq_true c18
         clear c18
         by_cases c19 : (ji17) < (s0_0.length : Int)
         ·rw [if_pos c19] at H
          have c19b0 : decide ((ji17) < (s0_0.length : Int)) = true := decide_eq_true c19
          clear c19
          by_cases c20 : a1 = 0
          ·rw [if_pos c20] at H
           exact absurd H (by simp)
          ·rw [if_neg c20] at H
           have c20b0 := beq_eq_false_iff_ne.mpr c20
           have c20b1 := bne_iff_ne.mpr c20
           simp only [Option.some.injEq, Prod.mk.injEq] at H
           obtain ⟨rfl, rfl⟩ := H
           obtain ⟨ASz21_0, cSz21_0, HGz21, hgz21, HSz21_0⟩ := HI0.out
           have hcz21_0 := cellS40_0 HGz21
           have hcz21_1 := cellS40_1 HGz21
           have hfz21_1 := blk_frozen HGz21 1
           clear HGz21 hgz21
           have p105 : 0 ≤ ((ji14) : Int) := od
           have q105 : (ji14) < (s0_0.length : Int) := od
           obtain ⟨ad105, e105, hx105_0⟩ := Kd.at_int HSz21_0 (ji14) p105 q105
           cases e105
           replace hx105_0 := pw_cell_below HB.out hx105_0
           replace p105 := eq_true p105
           replace q105 := eq_true q105
           have p106 : 0 ≤ ((ji17) : Int) := od
           have q106 : (ji17) < (s0_0.length : Int) := od
           obtain ⟨ad106, e106, hx106_0⟩ := Kd.at_int HSz21_0 (ji17) p106 q106
           obtain rfl : ad105 = ad106 := (by injection e106)
           replace hx106_0 := pw_cell_below HB.out hx106_0
           replace p106 := eq_true p106
           replace q106 := eq_true q106
           go_wp2
           repeat (go_quiet (fail); try go_wp2)
           go_ret
           exact ⟨by first | rfl | (simp [errW_none, errW_some] <;> rfl) | (simp only [← hji14, ← hji17]; first | rfl | (simp [errW_none, errW_some] <;> rfl)) | (simp [*, errW_none, errW_some] <;> rfl), iS, bS, kU⟩
         ·rw [if_neg c19] at H
          exact absurd H (by simp)
        ·rw [if_neg c18] at H
         exact absurd H (by simp)
       ·rw [if_neg c16] at H
        exact absurd H (by simp)
      ·rw [if_neg c15] at H
       exact absurd H (by simp)
end Go.Proofs.Ytchegijjjakmpaa.P

end
section

namespace Go.Proofs.Ytchegijjjakmpaa.P
open Go.RowKit Go.Proofs.YtchegijjjakmpaaW.PrintWords Go.Proofs.YtchegijjjakmpaaW.PrintLast Go.Proofs.YtchegijjjakmpaaW.PrintMore
attribute [local go_sem] max2_int min2_int max_two min_two max_three min_three max_four min_four
set_option linter.unusedVariables false
set_option linter.unusedSimpArgs false
set_option maxHeartbeats 8000000 in
set_option maxRecDepth 100000 in
theorem spec_l6In.calls (a0 : Int) (a1 : Int) (a2 : Int) (r : Bool) (w : World) (h : spec_l6In.f a0 a1 a2 = some r) :
  Calls Try.prog 38 #[.int .i64 a0, .int .i64 a1, .int .i64 a2] w fun e w' => e = .returned (.bool r) ∧ Drawn0 w w' := by
 have H : (if a0 ≥ a1 then (some (decide (a0 ≤ a2))) else (some false)) = some r := h
 clear h
 by_cases c4 : a0 ≥ a1
 ·rw [if_pos c4] at H
  have c4b0 : decide (a1 ≤ a0) = true := decide_eq_true c4
  clear c4
  obtain rfl := Option.some.inj H; clear H
  go_enter Try.func38, Try.ntmps38
  go_wp2
  go_ret
  exact ⟨by first | rfl | (simp; done) | (simp [*]; done), by repeat (first | exact Drawn0.refl _ | apply Drawn0.step)⟩
 ·rw [if_neg c4] at H
  have c4b0 : decide (a1 ≤ a0) = false := decide_eq_false c4
  clear c4
  obtain rfl := Option.some.inj H; clear H
  go_enter Try.func38, Try.ntmps38
  go_wp2
  go_ret
  exact ⟨by first | rfl | (simp; done) | (simp [*]; done), by repeat (first | exact Drawn0.refl _ | apply Drawn0.step)⟩
end Go.Proofs.Ytchegijjjakmpaa.P

end
section

namespace Go.Proofs.Ytchegijjjakmpaa.P
open Go.RowKit Go.Proofs.YtchegijjjakmpaaW.PrintWords Go.Proofs.YtchegijjjakmpaaW.PrintLast Go.Proofs.YtchegijjjakmpaaW.PrintMore
attribute [local go_sem] max2_int min2_int max_two min_two max_three min_three max_four min_four
set_option linter.unusedVariables false
set_option linter.unusedSimpArgs false
set_option maxHeartbeats 8000000 in
set_option maxRecDepth 100000 in
theorem spec_l2Field.calls (A0 : Option Addr) (c0 : Nat) (l0 : List (S48)) (a1 : Int) (r : Bool) (w : World) (hr0 : Kd.C k48 w A0 l0.length l0) (hc0 : l0.length ≤ c0) (h : spec_l2Field.f l0 a1 = some r) :
  Calls Try.prog 40 #[.slice A0 l0.length c0, .int .i64 a1] w fun e w' => e = .returned (.bool r) ∧ Drawn0 w w' := by
 have HR0 := Aside0.mk hr0
 have HC0 := Aside0.mk hc0
 clear hr0 hc0
 have H : (if a1 = 1 then (some true) else (if a1 = 3 then (some true) else (if a1 = 4 then (some true) else ((spec_l6In.f a1 8 (wrap64 ((wrap64 (8 + (l0.length : Int))) - 1))).bind fun t226 => (some t226))))) = some r := h
 clear h
 by_cases c3 : a1 = 1
 ·rw [if_pos c3] at H
  have c3b0 := beq_iff_eq.mpr c3
  have c3b1 := bne_eq_false_iff_eq.mpr c3
  clear c3
  obtain rfl := Option.some.inj H; clear H
  go_enter Try.func40, Try.ntmps40
  go_wp2
  go_ret
  exact ⟨by first | rfl | (simp; done) | (simp [*]; done), by repeat (first | exact Drawn0.refl _ | apply Drawn0.step)⟩
 ·rw [if_neg c3] at H
  have c3b0 := beq_eq_false_iff_ne.mpr c3
  have c3b1 := bne_iff_ne.mpr c3
  by_cases c4 : a1 = 3
  ·rw [if_pos c4] at H
   have c4b0 := beq_iff_eq.mpr c4
   have c4b1 := bne_eq_false_iff_eq.mpr c4
   clear c4
   obtain rfl := Option.some.inj H; clear H
   go_enter Try.func40, Try.ntmps40
   go_wp2
   go_ret
   exact ⟨by first | rfl | (simp; done) | (simp [*]; done), by repeat (first | exact Drawn0.refl _ | apply Drawn0.step)⟩
  ·rw [if_neg c4] at H
   have c4b0 := beq_eq_false_iff_ne.mpr c4
   have c4b1 := bne_iff_ne.mpr c4
   by_cases c5 : a1 = 4
   ·rw [if_pos c5] at H
    have c5b0 := beq_iff_eq.mpr c5
    have c5b1 := bne_eq_false_iff_eq.mpr c5
    clear c5
    obtain rfl := Option.some.inj H; clear H
    go_enter Try.func40, Try.ntmps40
    go_wp2
    go_ret
    exact ⟨by first | rfl | (simp; done) | (simp [*]; done), by repeat (first | exact Drawn0.refl _ | apply Drawn0.step)⟩
   ·rw [if_neg c5] at H
    have c5b0 := beq_eq_false_iff_ne.mpr c5
    have c5b1 := bne_iff_ne.mpr c5
    obtain ⟨t226, A6, H⟩ := ob H
    obtain rfl := Option.some.inj H; clear H
    go_enter Try.func40, Try.ntmps40
    go_wp2_with (first | (go_at_call 38; (with_reducible refine (spec_l6In.calls a1 8 (wrap64 ((wrap64 (8 + (l0.length : Int))) - 1)) t226 _ A6.out).mono ?_); rintro e w' ⟨rfl, ⟨nd, rfl⟩⟩))
    go_ret
    exact ⟨by first | rfl | (simp; done) | (simp [*]; done), by repeat (first | exact Drawn0.refl _ | apply Drawn0.step)⟩
end Go.Proofs.Ytchegijjjakmpaa.P

end
section

namespace Go.Proofs.Ytchegijjjakmpaa.P
open Go.RowKit Go.Proofs.YtchegijjjakmpaaW.PrintWords Go.Proofs.YtchegijjjakmpaaW.PrintLast Go.Proofs.YtchegijjjakmpaaW.PrintMore
attribute [local go_sem] max2_int min2_int max_two min_two max_three min_three max_four min_four
set_option linter.unusedVariables false
set_option linter.unusedSimpArgs false
set_option maxHeartbeats 8000000 in
set_option maxRecDepth 100000 in
theorem spec_l2Class.calls (k : Nat) (A0 : Option Addr) (c0 : Nat) (l0 : List (S48)) (a1 : Int) (r : Bool) (w : World) (hr0 : Kd.C k48 w A0 l0.length l0) (hc0 : l0.length ≤ c0) (h : spec_l2Class.f k l0 a1 = some r) :
  Calls Try.prog 39 #[.slice A0 l0.length c0, .int .i64 a1] w fun e w' => e = .returned (.bool r) ∧ Below w.heap.size w w' := by
 have hu48 := Try.underlying48
 have HR0 := Aside0.mk hr0
 have HC0 := Aside0.mk hc0
 clear hr0 hc0
 have HB := Aside0.mk (Below.refl w.heap.size w)
 have H : (if 0 ≤ a1 then (if a1 < (l0.length : Int) then (spec_l2Class.l0 k l0 a1 0 ((rd_T48 l0 a1).f0) ((rd_T48 l0 a1).f1)) else (none)) else (none)) = some r := h
 clear h
 by_cases c3 : 0 ≤ a1
 ·rw [if_pos c3] at H
  have c3b0 : decide (0 ≤ a1) = true := decide_eq_true c3
  clear c3
  by_cases c4 : a1 < (l0.length : Int)
  ·rw [if_pos c4] at H
   have c4b0 : decide (a1 < (l0.length : Int)) = true := decide_eq_true c4
   clear c4
   have H' := Aside0.mk H
   clear H
   have p227 : 0 ≤ (a1 : Int) := od
   have q227 : a1 < (l0.length : Int) := od
   obtain ⟨ad227, A227_1, c227_1, e227, hx227_0, hx227_1, hl227_1, hi227_1⟩ := at_T48 HR0.out a1 p227 q227
   cases e227
   have HR227_1 := Aside0.mk hi227_1
   have HC227_1 := Aside0.mk hl227_1
   clear hi227_1 hl227_1
   replace p227 := eq_true p227
   replace q227 := eq_true q227
   go_enter Try.func39, Try.ntmps39
   go_wp2_with (first | ((with_reducible refine gd 5 rfl ?_); (try (refine gate_guard (by rfl) ?_; dsimp only)); refine bx 5 #[.int .i64 0, .slice none 0 0] 48 ?_; intro gb228 hg w5 hbox hb; have BK228 := Aside0.mk hbox; have GW228 := hz HB hg; have GE228 := hz HB hg; replace HB := hs HB hb; clear hb hbox hg; obtain ⟨_,_,_,_⟩ := cf2 BK228))
   go_loopg [6] k (fun kq v6 w' => ∃ (x6_1 : Int), v6 = .int .i64 x6_1 ∧ Aside0 (spec_l2Class.l0 kq l0 a1 x6_1 ((rd_T48 l0 a1).f0) ((rd_T48 l0 a1).f1) = some r) ∧ Aside0 (kq ≤ k) ∧ Aside0 (w'.heap[gb228]? = some (.cells #[.int .i64 ((rd_T48 l0 a1).f0), (.slice A227_1 ((rd_T48 l0 a1).f1).length c227_1)] 48 (0, 0))) ∧ Aside0 (Below w.heap.size w w'))
   case atStart => exact ⟨(0), (by first | rfl | (simp; done) | (simp [*]; done)), H', ⟨Nat.le_refl _⟩, kf, ⟨bl⟩⟩
   case round =>
    clear H'
    obtain ⟨x6_1, rfl, HA, HK1, BK228, HB⟩ := hrel
    cases gk with
    | zero => exact absurd HA.out (by simp [spec_l2Class.l0])
    | succ k1 =>
     have H := HA.out
     clear HA
     simp only [spec_l2Class.l0] at H
     by_cases c7 : x6_1 < (((rd_T48 l0 a1).f1).length : Int)
     ·rw [if_pos c7] at H
      have c7b0 : decide (x6_1 < (((rd_T48 l0 a1).f1).length : Int)) = true := decide_eq_true c7
      clear c7
      by_cases c8 : 0 ≤ x6_1
      ·rw [if_pos c8] at H
       have c8b0 : decide (0 ≤ x6_1) = true := decide_eq_true c8
       clear c8
       obtain ⟨t230, A9, H⟩ := ob H
       by_cases c10 : t230 = true
       ·subst c10
        replace H := it H
        have H' := Aside0.mk H
        clear H
        obtain ⟨_,_,_,_⟩ := cf2 BK228
        have p229 : 0 ≤ (x6_1 : Int) := od
        have q229 : x6_1 < (((rd_T48 l0 a1).f1).length : Int) := od
        obtain ⟨ad229, e229, hx229_0⟩ := Kd.at_int HR227_1.out x6_1 p229 q229
        cases e229
        replace hx229_0 := hc HB hx229_0
        replace p229 := eq_true p229
        replace q229 := eq_true q229
        go_wp2_with (first | ((with_reducible refine gc 40 rfl ?_); refine gl (some 24) Try.func40 #[.slice (some ad227) l0.length c0, .int .i64 (rd ((rd_T48 l0 a1).f1) x6_1)] rfl ?_; (with_reducible refine (spec_l2Field.calls _ _ l0 (rd ((rd_T48 l0 a1).f1) x6_1) true _ ?side1 ?side2 A9.out).mono ?_); (case side1 => exact cb HR0.out); (case side2 => exact HC0.out); rintro e w' ⟨rfl, ⟨nd, rfl⟩⟩; refine ⟨_, rfl, ?_⟩))
        go_roundg k1
        case measure => have := HK1.out; omega
        case rel => exact ⟨(wrap64 (x6_1 + 1)), (by first | rfl | (simp; done) | (simp [*]; done)), H', ⟨by have := HK1.out; omega⟩, kk BK228, ⟨bl⟩⟩
       ·replace c10 := Bool.eq_false_iff.mpr c10
        subst c10
        replace H := ie H
        obtain rfl := Option.some.inj H; clear H
        obtain ⟨_,_,_,_⟩ := cf2 BK228
        have p229 : 0 ≤ (x6_1 : Int) := od
        have q229 : x6_1 < (((rd_T48 l0 a1).f1).length : Int) := od
        obtain ⟨ad229, e229, hx229_0⟩ := Kd.at_int HR227_1.out x6_1 p229 q229
        cases e229
        replace hx229_0 := hc HB hx229_0
        replace p229 := eq_true p229
        replace q229 := eq_true q229
        go_wp2_with (first | ((with_reducible refine gc 40 rfl ?_); refine gl (some 24) Try.func40 #[.slice (some ad227) l0.length c0, .int .i64 (rd ((rd_T48 l0 a1).f1) x6_1)] rfl ?_; (with_reducible refine (spec_l2Field.calls _ _ l0 (rd ((rd_T48 l0 a1).f1) x6_1) false _ ?side1 ?side2 A9.out).mono ?_); (case side1 => exact cb HR0.out); (case side2 => exact HC0.out); rintro e w' ⟨rfl, ⟨nd, rfl⟩⟩; refine ⟨_, rfl, ?_⟩))
        go_ret
        exact fin
      ·rw [if_neg c8] at H
       exact absurd H (by simp)
     ·rw [if_neg c7] at H
      have c7b0 : decide (x6_1 < (((rd_T48 l0 a1).f1).length : Int)) = false := decide_eq_false c7
      clear c7
      by_cases c13 : a1 = 0
      ·rw [if_pos c13] at H
       have c13b0 := beq_iff_eq.mpr c13
       have c13b1 := bne_eq_false_iff_eq.mpr c13
       clear c13
       by_cases c14 : ((rd_T48 l0 a1).f0) = (-1)
       ·rw [if_pos c14] at H
        have c14b0 := beq_iff_eq.mpr c14
        have c14b1 := bne_eq_false_iff_eq.mpr c14
        clear c14
        obtain rfl := Option.some.inj H; clear H
        obtain ⟨_,_,_,_⟩ := cf2 BK228
        go_wp2
        go_ret
        exact fin
       ·rw [if_neg c14] at H
        have c14b0 := beq_eq_false_iff_ne.mpr c14
        have c14b1 := bne_iff_ne.mpr c14
        obtain rfl := Option.some.inj H; clear H
        obtain ⟨_,_,_,_⟩ := cf2 BK228
        go_wp2
        go_ret
        exact fin
      ·rw [if_neg c13] at H
       have c13b0 := beq_eq_false_iff_ne.mpr c13
       have c13b1 := bne_iff_ne.mpr c13
       by_cases c17 : a1 = 1
       ·rw [if_pos c17] at H
        have c17b0 := beq_iff_eq.mpr c17
        have c17b1 := bne_eq_false_iff_eq.mpr c17
        clear c17
        by_cases c18 : ((rd_T48 l0 a1).f0) = 0
        ·rw [if_pos c18] at H
         have c18b0 := beq_iff_eq.mpr c18
         have c18b1 := bne_eq_false_iff_eq.mpr c18
         clear c18
         by_cases c19 : (((rd_T48 l0 a1).f1).length : Int) = 1
         ·rw [if_pos c19] at H
          have c19b0 := beq_iff_eq.mpr c19
          have c19b1 := bne_eq_false_iff_eq.mpr c19
          clear c19
          by_cases c20 : 0 < (((rd_T48 l0 a1).f1).length : Int)
          ·rw [if_pos c20] at H
           have c20b0 : decide (0 < (((rd_T48 l0 a1).f1).length : Int)) = true := decide_eq_true c20
           have c20b1 : decide (0 < ((rd_T48 l0 a1).f1).length) = true := decide_eq_true (by omega)
           clear c20
           obtain rfl := Option.some.inj H; clear H
           obtain ⟨_,_,_,_⟩ := cf2 BK228
           have p231 : 0 ≤ (0 : Int) := (by omega)
           have q231 : 0 < (((rd_T48 l0 a1).f1).length : Int) := od
           obtain ⟨ad231, e231, hx231_0⟩ := Kd.at_int HR227_1.out 0 p231 q231
           cases e231
           have qi231 : (0 < ((rd_T48 l0 a1).f1).length) = True := eq_true (by omega)
           (try rw [show ((0 : Int)).toNat = 0 from rfl] at hx231_0)
           (try rw [Addr.add_zero'] at hx231_0)
           replace hx231_0 := hc HB hx231_0
           replace p231 := eq_true p231
           replace q231 := eq_true q231
           go_wp2
           go_ret
           exact fin
          ·rw [if_neg c20] at H
           exact absurd H (by simp)
         ·rw [if_neg c19] at H
          have c19b0 := beq_eq_false_iff_ne.mpr c19
          have c19b1 := bne_iff_ne.mpr c19
          obtain rfl := Option.some.inj H; clear H
          obtain ⟨_,_,_,_⟩ := cf2 BK228
          go_wp2
          go_ret
          exact fin
        ·rw [if_neg c18] at H
         have c18b0 := beq_eq_false_iff_ne.mpr c18
         have c18b1 := bne_iff_ne.mpr c18
         obtain rfl := Option.some.inj H; clear H
         obtain ⟨_,_,_,_⟩ := cf2 BK228
         go_wp2
         go_ret
         exact fin
       ·rw [if_neg c17] at H
        have c17b0 := beq_eq_false_iff_ne.mpr c17
        have c17b1 := bne_iff_ne.mpr c17
        obtain ⟨t232, A24, H⟩ := ob H
        by_cases c25 : t232 = true
        ·subst c25
         replace H := it H
         obtain rfl := Option.some.inj H; clear H
         obtain ⟨_,_,_,_⟩ := cf2 BK228
         go_wp2_with (first | ((with_reducible refine gc 38 rfl ?_); refine gl (some 60) Try.func38 #[.int .i64 ((rd_T48 l0 a1).f0), .int .i64 0, .int .i64 (wrap64 (a1 - 1))] rfl ?_; (with_reducible refine (spec_l6In.calls ((rd_T48 l0 a1).f0) 0 (wrap64 (a1 - 1)) true _ A24.out).mono ?_); rintro e w' ⟨rfl, ⟨nd, rfl⟩⟩; refine ⟨_, rfl, ?_⟩))
         go_ret
         exact fin
        ·replace c25 := Bool.eq_false_iff.mpr c25
         subst c25
         replace H := ie H
         obtain rfl := Option.some.inj H; clear H
         obtain ⟨_,_,_,_⟩ := cf2 BK228
         go_wp2_with (first | ((with_reducible refine gc 38 rfl ?_); refine gl (some 60) Try.func38 #[.int .i64 ((rd_T48 l0 a1).f0), .int .i64 0, .int .i64 (wrap64 (a1 - 1))] rfl ?_; (with_reducible refine (spec_l6In.calls ((rd_T48 l0 a1).f0) 0 (wrap64 (a1 - 1)) false _ A24.out).mono ?_); rintro e w' ⟨rfl, ⟨nd, rfl⟩⟩; refine ⟨_, rfl, ?_⟩))
         go_ret
         exact fin
  ·rw [if_neg c4] at H
   exact absurd H (by simp)
 ·rw [if_neg c3] at H
  exact absurd H (by simp)
end Go.Proofs.Ytchegijjjakmpaa.P

end
section

namespace Go.Proofs.Ytchegijjjakmpaa.P
open Go.RowKit Go.Proofs.YtchegijjjakmpaaW.PrintWords Go.Proofs.YtchegijjjakmpaaW.PrintLast Go.Proofs.YtchegijjjakmpaaW.PrintMore
attribute [local go_sem] max2_int min2_int max_two min_two max_three min_three max_four min_four
set_option linter.unusedVariables false
set_option linter.unusedSimpArgs false
set_option maxHeartbeats 8000000 in
set_option maxRecDepth 100000 in
theorem spec_ClassesOk.calls (k : Nat) (A0 : Option Addr) (c0 : Nat) (l0 : List (S48)) (r : Bool) (w : World) (hr0 : Kd.C k48 w A0 l0.length l0) (hc0 : l0.length ≤ c0) (h : spec_ClassesOk.f k l0 = some r) :
  Calls Try.prog 29 #[.slice A0 l0.length c0] w fun e w' => e = .returned (.bool r) ∧ Below w.heap.size w w' := by
 have HR0 := Aside0.mk hr0
 have HC0 := Aside0.mk hc0
 clear hr0 hc0
 have HB := Aside0.mk (Below.refl w.heap.size w)
 have H : ((spec_l6In.f (l0.length : Int) 2 5).bind fun t233 => (if t233 = true then (spec_ClassesOk.l0 k l0 0) else (some false))) = some r := h
 clear h
 obtain ⟨t233, A2, H⟩ := ob H
 by_cases c3 : t233 = true
 ·subst c3
  replace H := it H
  have H' := Aside0.mk H
  clear H
  go_enter Try.func29, Try.ntmps29
  go_wp2_with (first | ((with_reducible refine gc 38 rfl ?_); refine gl (some 6) Try.func38 #[.int .i64 (l0.length : Int), .int .i64 2, .int .i64 5] rfl ?_; (with_reducible refine (spec_l6In.calls (l0.length : Int) 2 5 true _ A2.out).mono ?_); rintro e w' ⟨rfl, ⟨nd, rfl⟩⟩; refine ⟨_, rfl, ?_⟩))
  go_loopg [3] k (fun kq v3 w' => ∃ (x3_1 : Int), v3 = .int .i64 x3_1 ∧ Aside0 (spec_ClassesOk.l0 kq l0 x3_1 = some r) ∧ Aside0 (kq ≤ k) ∧ Aside0 (Below w.heap.size w w'))
  case atStart => exact ⟨(0), (by first | rfl | (simp; done) | (simp [*]; done)), H', ⟨Nat.le_refl _⟩, ⟨bl⟩⟩
  case round =>
   clear H'
   obtain ⟨x3_1, rfl, HA, HK1, HB⟩ := hrel
   cases gk with
   | zero => exact absurd HA.out (by simp [spec_ClassesOk.l0])
   | succ k1 =>
    have H := HA.out
    clear HA
    simp only [spec_ClassesOk.l0] at H
    by_cases c4 : x3_1 < (l0.length : Int)
    ·rw [if_pos c4] at H
     have c4b0 : decide (x3_1 < (l0.length : Int)) = true := decide_eq_true c4
     clear c4
     obtain ⟨t234, A5, H⟩ := ob H
     by_cases c6 : t234 = true
     ·subst c6
      replace H := it H
      have H' := Aside0.mk H
      clear H
      go_wp2_with (first | ((with_reducible refine gc 39 rfl ?_); refine gl (some 16) Try.func39 #[.slice A0 l0.length c0, .int .i64 x3_1] rfl ?_; (with_reducible refine (spec_l2Class.calls k1 _ _ l0 x3_1 true _ ?side1 ?side2 A5.out).mono ?_); (case side1 => exact cb HR0.out); (case side2 => exact HC0.out); rintro e w7 ⟨rfl, hb⟩; refine ⟨_, rfl, ?_⟩; replace HB := hs HB hb; (try clear hb)))
      go_roundg k1
      case measure => have := HK1.out; omega
      case rel => exact ⟨(wrap64 (x3_1 + 1)), (by first | rfl | (simp; done) | (simp [*]; done)), H', ⟨by have := HK1.out; omega⟩, ⟨bl⟩⟩
     ·replace c6 := Bool.eq_false_iff.mpr c6
      subst c6
      replace H := ie H
      obtain rfl := Option.some.inj H; clear H
      go_wp2_with (first | ((with_reducible refine gc 39 rfl ?_); refine gl (some 16) Try.func39 #[.slice A0 l0.length c0, .int .i64 x3_1] rfl ?_; (with_reducible refine (spec_l2Class.calls k1 _ _ l0 x3_1 false _ ?side1 ?side2 A5.out).mono ?_); (case side1 => exact cb HR0.out); (case side2 => exact HC0.out); rintro e w8 ⟨rfl, hb⟩; refine ⟨_, rfl, ?_⟩; replace HB := hs HB hb; (try clear hb)))
      go_ret
      exact fin
    ·rw [if_neg c4] at H
     have c4b0 : decide (x3_1 < (l0.length : Int)) = false := decide_eq_false c4
     clear c4
     obtain rfl := Option.some.inj H; clear H
     go_wp2
     go_ret
     exact fin
 ·replace c3 := Bool.eq_false_iff.mpr c3
  subst c3
  replace H := ie H
  obtain rfl := Option.some.inj H; clear H
  go_enter Try.func29, Try.ntmps29
  go_wp2_with (first | ((with_reducible refine gc 38 rfl ?_); refine gl (some 6) Try.func38 #[.int .i64 (l0.length : Int), .int .i64 2, .int .i64 5] rfl ?_; (with_reducible refine (spec_l6In.calls (l0.length : Int) 2 5 false _ A2.out).mono ?_); rintro e w' ⟨rfl, ⟨nd, rfl⟩⟩; refine ⟨_, rfl, ?_⟩))
  go_ret
  exact fin
end Go.Proofs.Ytchegijjjakmpaa.P

end
section

namespace Go.Proofs.Ytchegijjjakmpaa.P
open Go.RowKit Go.Proofs.YtchegijjjakmpaaW.PrintWords Go.Proofs.YtchegijjjakmpaaW.PrintLast Go.Proofs.YtchegijjjakmpaaW.PrintMore
attribute [local go_sem] max2_int min2_int max_two min_two max_three min_three max_four min_four
set_option linter.unusedVariables false
set_option linter.unusedSimpArgs false
set_option maxHeartbeats 8000000 in
set_option maxRecDepth 100000 in
theorem spec_TypeOk.calls (k : Nat) (A0 : Option Addr) (c0 : Nat) (l0 : List (S48)) (a1 : Int) (r : Bool) (w : World) (hr0 : Kd.C k48 w A0 l0.length l0) (hc0 : l0.length ≤ c0) (h : spec_TypeOk.f k l0 a1 = some r) :
  Calls Try.prog 30 #[.slice A0 l0.length c0, .int .i64 a1] w fun e w' => e = .returned (.bool r) ∧ Below w.heap.size w w' := by
 have HR0 := Aside0.mk hr0
 have HC0 := Aside0.mk hc0
 clear hr0 hc0
 have HB := Aside0.mk (Below.refl w.heap.size w)
 have H : ((spec_ClassesOk.f k l0).bind fun t235 => (if t235 = true then (if a1 = 0 then (some true) else (if a1 = 2 then (some true) else ((spec_l2Field.f l0 a1).bind fun t236 => (some t236)))) else (some false))) = some r := h
 clear h
 obtain ⟨t235, A3, H⟩ := ob H
 by_cases c4 : t235 = true
 ·subst c4
  replace H := it H
  by_cases c5 : a1 = 0
  ·rw [if_pos c5] at H
   have c5b0 := beq_iff_eq.mpr c5
   have c5b1 := bne_eq_false_iff_eq.mpr c5
   clear c5
   obtain rfl := Option.some.inj H; clear H
   go_enter Try.func30, Try.ntmps30
   go_wp2_with (first | ((with_reducible refine gc 29 rfl ?_); refine gl (some 6) Try.func29 #[.slice A0 l0.length c0] rfl ?_; (with_reducible refine (spec_ClassesOk.calls k _ _ l0 true _ ?side1 ?side2 A3.out).mono ?_); (case side1 => repeat (first | exact HR0.out | (with_reducible refine Kd.C_alloc ?_ _) | (with_reducible refine Kd.C_drewN ?_ _) | (with_reducible refine Kd.C_drew ?_))); (case side2 => exact HC0.out); rintro e w6 ⟨rfl, hb⟩; refine ⟨_, rfl, ?_⟩; replace HB := hs HB hb))
   go_ret
   exact fin
  ·rw [if_neg c5] at H
   have c5b0 := beq_eq_false_iff_ne.mpr c5
   have c5b1 := bne_iff_ne.mpr c5
   by_cases c7 : a1 = 2
   ·rw [if_pos c7] at H
    have c7b0 := beq_iff_eq.mpr c7
    have c7b1 := bne_eq_false_iff_eq.mpr c7
    clear c7
    obtain rfl := Option.some.inj H; clear H
    go_enter Try.func30, Try.ntmps30
    go_wp2_with (first | ((with_reducible refine gc 29 rfl ?_); refine gl (some 6) Try.func29 #[.slice A0 l0.length c0] rfl ?_; (with_reducible refine (spec_ClassesOk.calls k _ _ l0 true _ ?side1 ?side2 A3.out).mono ?_); (case side1 => repeat (first | exact HR0.out | (with_reducible refine Kd.C_alloc ?_ _) | (with_reducible refine Kd.C_drewN ?_ _) | (with_reducible refine Kd.C_drew ?_))); (case side2 => exact HC0.out); rintro e w8 ⟨rfl, hb⟩; refine ⟨_, rfl, ?_⟩; replace HB := hs HB hb))
    go_ret
    exact fin
   ·rw [if_neg c7] at H
    have c7b0 := beq_eq_false_iff_ne.mpr c7
    have c7b1 := bne_iff_ne.mpr c7
    obtain ⟨t236, A9, H⟩ := ob H
    obtain rfl := Option.some.inj H; clear H
    go_enter Try.func30, Try.ntmps30
    go_wp2_with (first | ((with_reducible refine gc 29 rfl ?_); refine gl (some 6) Try.func29 #[.slice A0 l0.length c0] rfl ?_; (with_reducible refine (spec_ClassesOk.calls k _ _ l0 true _ ?side1 ?side2 A3.out).mono ?_); (case side1 => repeat (first | exact HR0.out | (with_reducible refine Kd.C_alloc ?_ _) | (with_reducible refine Kd.C_drewN ?_ _) | (with_reducible refine Kd.C_drew ?_))); (case side2 => exact HC0.out); rintro e w10 ⟨rfl, hb⟩; refine ⟨_, rfl, ?_⟩; replace HB := hs HB hb) | (go_at_call 40; (with_reducible refine (spec_l2Field.calls _ _ l0 a1 t236 _ ?side1 ?side2 A9.out).mono ?_); (case side1 => exact cb HR0.out); (case side2 => exact HC0.out); rintro e w' ⟨rfl, ⟨nd, rfl⟩⟩))
    go_ret
    exact fin
 ·replace c4 := Bool.eq_false_iff.mpr c4
  subst c4
  replace H := ie H
  obtain rfl := Option.some.inj H; clear H
  go_enter Try.func30, Try.ntmps30
  go_wp2_with (first | ((with_reducible refine gc 29 rfl ?_); refine gl (some 6) Try.func29 #[.slice A0 l0.length c0] rfl ?_; (with_reducible refine (spec_ClassesOk.calls k _ _ l0 false _ ?side1 ?side2 A3.out).mono ?_); (case side1 => repeat (first | exact HR0.out | (with_reducible refine Kd.C_alloc ?_ _) | (with_reducible refine Kd.C_drewN ?_ _) | (with_reducible refine Kd.C_drew ?_))); (case side2 => exact HC0.out); rintro e w11 ⟨rfl, hb⟩; refine ⟨_, rfl, ?_⟩; replace HB := hs HB hb))
  go_ret
  exact fin
end Go.Proofs.Ytchegijjjakmpaa.P

end
section

namespace Go.Proofs.Ytchegijjjakmpaa.P
open Go.RowKit Go.Proofs.YtchegijjjakmpaaW.PrintWords Go.Proofs.YtchegijjjakmpaaW.PrintLast Go.Proofs.YtchegijjjakmpaaW.PrintMore
attribute [local go_sem] max2_int min2_int max_two min_two max_three min_three max_four min_four
set_option linter.unusedVariables false
set_option linter.unusedSimpArgs false
set_option maxHeartbeats 8000000 in
set_option maxRecDepth 100000 in
theorem spec_ShapeOk.calls (k : Nat) (A0 : Option Addr) (c0 : Nat) (l0 : List (S48)) (a1 : Int) (a2_0 : Bool) (A2_1 : Option Addr) (c2_1 : Nat) (l2_1 : List Int) (A2_2 : Option Addr) (c2_2 : Nat) (l2_2 : List Int) (r : Bool) (w : World) (hr0 : Kd.C k48 w A0 l0.length l0) (hc0 : l0.length ≤ c0) (hr2_1 : Kd.C (Kd.int .i64) w A2_1 l2_1.length l2_1) (hc2_1 : l2_1.length ≤ c2_1) (hr2_2 : Kd.C (Kd.int .i64) w A2_2 l2_2.length l2_2) (hc2_2 : l2_2.length ≤ c2_2) (h : spec_ShapeOk.f k l0 a1 a2_0 l2_1 l2_2 = some r) :
  Calls Try.prog 19 #[.slice A0 l0.length c0, .int .i64 a1, .agg #[.bool a2_0, .slice A2_1 l2_1.length c2_1, .slice A2_2 l2_2.length c2_2]] w fun e w' => e = .returned (.bool r) ∧ Below w.heap.size w w' := by
 have hu26 := Try.underlying26
 have HR0 := Aside0.mk hr0
 have HC0 := Aside0.mk hc0
 clear hr0 hc0
 have HR2_1 := Aside0.mk hr2_1
 have HC2_1 := Aside0.mk hc2_1
 clear hr2_1 hc2_1
 have HR2_2 := Aside0.mk hr2_2
 have HC2_2 := Aside0.mk hc2_2
 clear hr2_2 hc2_2
 have HB := Aside0.mk (Below.refl w.heap.size w)
 have H : ((spec_ClassesOk.f k l0).bind fun t238 => (if t238 = true then (if a2_0 = true then (if (l2_1.length : Int) = a1 then (spec_ShapeOk.j0 k l0 (decide ((l2_2.length : Int) > 4)) a2_0 l2_1 l2_2) else (spec_ShapeOk.j0 k l0 true a2_0 l2_1 l2_2)) else (if (l2_1.length : Int) = 0 then (some ((l2_2.length : Int) == 0)) else (some false))) else (some false))) = some r := h
 clear h
 obtain ⟨t238, A4, H⟩ := ob H
 by_cases c5 : t238 = true
 ·subst c5
  replace H := it H
  by_cases c6 : a2_0 = true
  ·subst c6
   replace H := it H
   have HC7 := Aside0.mk H
   clear H
   go_enter Try.func19, Try.ntmps19
   go_upto_region 5 with (first | ((with_reducible refine gd 5 rfl ?_); (try (refine gate_guard (by rfl) ?_; dsimp only)); refine bx 5 #[.bool true, .slice A2_1 l2_1.length c2_1, .slice A2_2 l2_2.length c2_2] 26 ?_; intro gb237 hg w8 hbox hb; have BK237 := Aside0.mk hbox; have GW237 := hz HB hg; have GE237 := hz HB hg; replace HB := hs HB hb; clear hb hbox hg) | ((with_reducible refine gc 29 rfl ?_); refine gl (some 10) Try.func29 #[.slice A0 l0.length c0] rfl ?_; (with_reducible refine (spec_ClassesOk.calls k _ _ l0 true _ ?side1 ?side2 A4.out).mono ?_); (case side1 => exact cb HR0.out); (case side2 => exact HC0.out); rintro e w9 ⟨rfl, hb⟩; refine ⟨_, rfl, ?_⟩; replace BK237 := kb BK237 hb; replace HB := hs HB hb; obtain ⟨_,_,_,_,_,_⟩ := cf3 BK237))
   (try simp only [Act.put, List.setIfInBounds_toArray, List.set_cons_zero, List.set_cons_succ])
   go_cut [35] (fun v35 wc => ∃ (kq : Nat) (x35_6 : Bool), v35 = .bool x35_6 ∧ Aside0 (spec_ShapeOk.j0 kq l0 x35_6 true l2_1 l2_2 = some r) ∧ Aside0 (kq ≤ k) ∧ Aside0 (wc.heap[gb237]? = some (.cells #[.bool true, (.slice A2_1 l2_1.length c2_1), (.slice A2_2 l2_2.length c2_2)] 26 (0, 0))) ∧ Aside0 (Below w.heap.size w wc))
   case first =>
    have H := HC7.out
    clear HC7
    by_cases c11 : (l2_1.length : Int) = a1
    ·rw [if_pos c11] at H
     have c11b0 := beq_iff_eq.mpr c11
     have c11b1 := bne_eq_false_iff_eq.mpr c11
     clear c11
     (first | rw [c11b0] | (simp only [i64_w, i32_w]; rw [c11b0]) | skip)
     have H' := Aside0.mk H
     clear H
     obtain ⟨_,_,_,_,_,_⟩ := cf3 BK237
     go_wp2
     go_meet
     case rel => exact ⟨_, (decide ((l2_2.length : Int) > 4)), (by first | rfl | (simp; done) | (simp [*]; done)), H', ⟨by first | omega | exact Nat.le_refl _⟩, kk BK237, ⟨bl⟩⟩
    ·rw [if_neg c11] at H
     have c11b0 := beq_eq_false_iff_ne.mpr c11
     have c11b1 := bne_iff_ne.mpr c11
     (first | rw [c11b0] | (simp only [i64_w, i32_w]; rw [c11b0]) | skip)
     have H' := Aside0.mk H
     clear H
     obtain ⟨_,_,_,_,_,_⟩ := cf3 BK237
     go_wp2
     go_meet
     case rel => exact ⟨_, (true), (by first | rfl | (simp; done) | (simp [*]; done)), H', ⟨by first | omega | exact Nat.le_refl _⟩, kk BK237, ⟨bl⟩⟩
   case rest =>
    clear HC7
    obtain ⟨kq, x35_6, rfl, HA, HJ6, BK237, HB⟩ := hcut
    cases kq with
    | zero => exact absurd HA.out (by simp [spec_ShapeOk.j0])
    | succ kj6 =>
     have H := HA.out
     clear HA
     simp only [spec_ShapeOk.j0] at H
     by_cases c14 : x35_6 = true
     ·subst c14
      replace H := it H
      obtain rfl := Option.some.inj H; clear H
      go_wp2
      go_ret
      exact fin
     ·replace c14 := Bool.eq_false_iff.mpr c14
      subst c14
      replace H := ie H
      have H' := Aside0.mk H
      clear H
      go_wp2
      go_loopg [7] kj6 (fun kq v7 w' => ∃ (x7_2 : Int), v7 = .int .i64 x7_2 ∧ Aside0 (spec_ShapeOk.l0 kq l0 x7_2 true l2_1 l2_2 = some r) ∧ Aside0 (kq ≤ kj6) ∧ Aside0 (w'.heap[gb237]? = some (.cells #[.bool true, (.slice A2_1 l2_1.length c2_1), (.slice A2_2 l2_2.length c2_2)] 26 (0, 0))) ∧ Aside0 (Below w.heap.size w w'))
      case atStart => exact ⟨(0), (by first | rfl | (simp; done) | (simp [*]; done)), H', ⟨Nat.le_refl _⟩, kk BK237, ⟨bl⟩⟩
      case round =>
       clear H'
       obtain ⟨x7_2, rfl, HA, HK2, BK237, HB⟩ := hrel
       cases gk with
       | zero => exact absurd HA.out (by simp [spec_ShapeOk.l0])
       | succ k2 =>
        have H := HA.out
        clear HA
        simp only [spec_ShapeOk.l0] at H
        by_cases c15 : x7_2 < (l2_1.length : Int)
        ·rw [if_pos c15] at H
         have c15b0 : decide (x7_2 < (l2_1.length : Int)) = true := decide_eq_true c15
         clear c15
         by_cases c16 : 0 ≤ x7_2
         ·rw [if_pos c16] at H
          have c16b0 : decide (0 ≤ x7_2) = true := decide_eq_true c16
          clear c16
          obtain ⟨t240, A17, H⟩ := ob H
          by_cases c18 : t240 = true
          ·subst c18
           replace H := it H
           have H' := Aside0.mk H
           clear H
           obtain ⟨_,_,_,_,_,_⟩ := cf3 BK237
           have p239 : 0 ≤ (x7_2 : Int) := od
           have q239 : x7_2 < (l2_1.length : Int) := od
           obtain ⟨ad239, e239, hx239_0⟩ := Kd.at_int HR2_1.out x7_2 p239 q239
           cases e239
           replace hx239_0 := hc HB hx239_0
           replace p239 := eq_true p239
           replace q239 := eq_true q239
           go_wp2_with (first | ((with_reducible refine gc 30 rfl ?_); refine gl (some 49) Try.func30 #[.slice A0 l0.length c0, .int .i64 (rd l2_1 x7_2)] rfl ?_; (with_reducible refine (spec_TypeOk.calls k2 _ _ l0 (rd l2_1 x7_2) true _ ?side1 ?side2 A17.out).mono ?_); (case side1 => exact cb HR0.out); (case side2 => exact HC0.out); rintro e w20 ⟨rfl, hb⟩; refine ⟨_, rfl, ?_⟩; replace BK237 := kb BK237 hb; replace HB := hs HB hb))
           go_roundg k2
           case measure => have := HJ6.out; have := HK2.out; omega
           case rel => exact ⟨(wrap64 (x7_2 + 1)), (by first | rfl | (simp; done) | (simp [*]; done)), H', ⟨by have := HJ6.out; have := HK2.out; omega⟩, kk BK237, ⟨bl⟩⟩
          ·replace c18 := Bool.eq_false_iff.mpr c18
           subst c18
           replace H := ie H
           obtain rfl := Option.some.inj H; clear H
           obtain ⟨_,_,_,_,_,_⟩ := cf3 BK237
           have p239 : 0 ≤ (x7_2 : Int) := od
           have q239 : x7_2 < (l2_1.length : Int) := od
           obtain ⟨ad239, e239, hx239_0⟩ := Kd.at_int HR2_1.out x7_2 p239 q239
           cases e239
           replace hx239_0 := hc HB hx239_0
           replace p239 := eq_true p239
           replace q239 := eq_true q239
           go_wp2_with (first | ((with_reducible refine gc 30 rfl ?_); refine gl (some 49) Try.func30 #[.slice A0 l0.length c0, .int .i64 (rd l2_1 x7_2)] rfl ?_; (with_reducible refine (spec_TypeOk.calls k2 _ _ l0 (rd l2_1 x7_2) false _ ?side1 ?side2 A17.out).mono ?_); (case side1 => exact cb HR0.out); (case side2 => exact HC0.out); rintro e w22 ⟨rfl, hb⟩; refine ⟨_, rfl, ?_⟩; replace BK237 := kb BK237 hb; replace HB := hs HB hb))
           go_ret
           exact fin
         ·rw [if_neg c16] at H
          exact absurd H (by simp)
        ·rw [if_neg c15] at H
         have c15b0 : decide (x7_2 < (l2_1.length : Int)) = false := decide_eq_false c15
         clear c15
         have H' := Aside0.mk H
         clear H
         obtain ⟨_,_,_,_,_,_⟩ := cf3 BK237
         go_wp2
         go_loopg [8] k2 (fun kq v8 w' => ∃ (x8_3 : Int), v8 = .int .i64 x8_3 ∧ Aside0 (spec_ShapeOk.l1 kq l0 x8_3 true l2_1 l2_2 = some r) ∧ Aside0 (kq ≤ k2) ∧ Aside0 (w'.heap[gb237]? = some (.cells #[.bool true, (.slice A2_1 l2_1.length c2_1), (.slice A2_2 l2_2.length c2_2)] 26 (0, 0))) ∧ Aside0 (Below w.heap.size w w'))
         case atStart => exact ⟨(0), (by first | rfl | (simp; done) | (simp [*]; done)), H', ⟨Nat.le_refl _⟩, kk BK237, ⟨bl⟩⟩
         case round =>
          clear H'
          obtain ⟨x8_3, rfl, HA, HK3, BK237, HB⟩ := hrel
          cases gk with
          | zero => exact absurd HA.out (by simp [spec_ShapeOk.l1])
          | succ k3 =>
           have H := HA.out
           clear HA
           simp only [spec_ShapeOk.l1] at H
           by_cases c24 : x8_3 < (l2_2.length : Int)
           ·rw [if_pos c24] at H
            have c24b0 : decide (x8_3 < (l2_2.length : Int)) = true := decide_eq_true c24
            clear c24
            by_cases c25 : 0 ≤ x8_3
            ·rw [if_pos c25] at H
             have c25b0 : decide (0 ≤ x8_3) = true := decide_eq_true c25
             clear c25
             obtain ⟨t242, A26, H⟩ := ob H
             by_cases c27 : t242 = true
             ·subst c27
              replace H := it H
              by_cases c28 : (rd l2_2 x8_3) = 0
              ·rw [if_pos c28] at H
               have c28b0 := beq_iff_eq.mpr c28
               have c28b1 := bne_eq_false_iff_eq.mpr c28
               clear c28
               obtain rfl := Option.some.inj H; clear H
               obtain ⟨_,_,_,_,_,_⟩ := cf3 BK237
               have p241 : 0 ≤ (x8_3 : Int) := od
               have q241 : x8_3 < (l2_2.length : Int) := od
               obtain ⟨ad241, e241, hx241_0⟩ := Kd.at_int HR2_2.out x8_3 p241 q241
               cases e241
               replace hx241_0 := hc HB hx241_0
               replace p241 := eq_true p241
               replace q241 := eq_true q241
               go_wp2_with (first | ((with_reducible refine gc 30 rfl ?_); refine gl (some 64) Try.func30 #[.slice A0 l0.length c0, .int .i64 (rd l2_2 x8_3)] rfl ?_; (with_reducible refine (spec_TypeOk.calls k3 _ _ l0 (rd l2_2 x8_3) true _ ?side1 ?side2 A26.out).mono ?_); (case side1 => exact cb HR0.out); (case side2 => exact HC0.out); rintro e w30 ⟨rfl, hb⟩; refine ⟨_, rfl, ?_⟩; replace BK237 := kb BK237 hb; replace HB := hs HB hb; obtain ⟨_,_,_,_,_,_⟩ := cf3 BK237; have p243 : 0 ≤ (x8_3 : Int) := od; have q243 : x8_3 < (l2_2.length : Int) := od; obtain ⟨ad243, e243, hx243_0⟩ := Kd.at_int HR2_2.out x8_3 p243 q243; obtain rfl : ad241 = ad243 := (by injection e243); replace hx243_0 := hc HB hx243_0; replace p243 := eq_true p243; replace q243 := eq_true q243))
               go_ret
               exact fin
              ·rw [if_neg c28] at H
               have c28b0 := beq_eq_false_iff_ne.mpr c28
               have c28b1 := bne_iff_ne.mpr c28
               have H' := Aside0.mk H
               clear H
               obtain ⟨_,_,_,_,_,_⟩ := cf3 BK237
               have p241 : 0 ≤ (x8_3 : Int) := od
               have q241 : x8_3 < (l2_2.length : Int) := od
               obtain ⟨ad241, e241, hx241_0⟩ := Kd.at_int HR2_2.out x8_3 p241 q241
               cases e241
               replace hx241_0 := hc HB hx241_0
               replace p241 := eq_true p241
               replace q241 := eq_true q241
               go_wp2_with (first | ((with_reducible refine gc 30 rfl ?_); refine gl (some 64) Try.func30 #[.slice A0 l0.length c0, .int .i64 (rd l2_2 x8_3)] rfl ?_; (with_reducible refine (spec_TypeOk.calls k3 _ _ l0 (rd l2_2 x8_3) true _ ?side1 ?side2 A26.out).mono ?_); (case side1 => exact cb HR0.out); (case side2 => exact HC0.out); rintro e w33 ⟨rfl, hb⟩; refine ⟨_, rfl, ?_⟩; replace BK237 := kb BK237 hb; replace HB := hs HB hb; obtain ⟨_,_,_,_,_,_⟩ := cf3 BK237; have p243 : 0 ≤ (x8_3 : Int) := od; have q243 : x8_3 < (l2_2.length : Int) := od; obtain ⟨ad243, e243, hx243_0⟩ := Kd.at_int HR2_2.out x8_3 p243 q243; obtain rfl : ad241 = ad243 := (by injection e243); replace hx243_0 := hc HB hx243_0; replace p243 := eq_true p243; replace q243 := eq_true q243))
               go_roundg k3
               case measure => have := HJ6.out; have := HK2.out; have := HK3.out; omega
               case rel => exact ⟨(wrap64 (x8_3 + 1)), (by first | rfl | (simp; done) | (simp [*]; done)), H', ⟨by have := HJ6.out; have := HK2.out; have := HK3.out; omega⟩, kk BK237, ⟨bl⟩⟩
             ·replace c27 := Bool.eq_false_iff.mpr c27
              subst c27
              replace H := ie H
              obtain rfl := Option.some.inj H; clear H
              obtain ⟨_,_,_,_,_,_⟩ := cf3 BK237
              have p241 : 0 ≤ (x8_3 : Int) := od
              have q241 : x8_3 < (l2_2.length : Int) := od
              obtain ⟨ad241, e241, hx241_0⟩ := Kd.at_int HR2_2.out x8_3 p241 q241
              cases e241
              replace hx241_0 := hc HB hx241_0
              replace p241 := eq_true p241
              replace q241 := eq_true q241
              go_wp2_with (first | ((with_reducible refine gc 30 rfl ?_); refine gl (some 64) Try.func30 #[.slice A0 l0.length c0, .int .i64 (rd l2_2 x8_3)] rfl ?_; (with_reducible refine (spec_TypeOk.calls k3 _ _ l0 (rd l2_2 x8_3) false _ ?side1 ?side2 A26.out).mono ?_); (case side1 => exact cb HR0.out); (case side2 => exact HC0.out); rintro e w36 ⟨rfl, hb⟩; refine ⟨_, rfl, ?_⟩; replace BK237 := kb BK237 hb; replace HB := hs HB hb))
              go_ret
              exact fin
            ·rw [if_neg c25] at H
             exact absurd H (by simp)
           ·rw [if_neg c24] at H
            have c24b0 : decide (x8_3 < (l2_2.length : Int)) = false := decide_eq_false c24
            clear c24
            obtain rfl := Option.some.inj H; clear H
            obtain ⟨_,_,_,_,_,_⟩ := cf3 BK237
            go_wp2
            go_ret
            exact fin
  ·replace c6 := Bool.eq_false_iff.mpr c6
   subst c6
   replace H := ie H
   by_cases c38 : (l2_1.length : Int) = 0
   ·rw [if_pos c38] at H
    have c38b0 := beq_iff_eq.mpr c38
    have c38b1 := bne_eq_false_iff_eq.mpr c38
    clear c38
    obtain rfl := Option.some.inj H; clear H
    go_enter Try.func19, Try.ntmps19
    go_wp2_with (first | ((with_reducible refine gd 5 rfl ?_); (try (refine gate_guard (by rfl) ?_; dsimp only)); refine bx 5 #[.bool false, .slice A2_1 l2_1.length c2_1, .slice A2_2 l2_2.length c2_2] 26 ?_; intro gb237 hg w39 hbox hb; have BK237 := Aside0.mk hbox; have GW237 := hz HB hg; have GE237 := hz HB hg; replace HB := hs HB hb; clear hb hbox hg) | ((with_reducible refine gc 29 rfl ?_); refine gl (some 10) Try.func29 #[.slice A0 l0.length c0] rfl ?_; (with_reducible refine (spec_ClassesOk.calls k _ _ l0 true _ ?side1 ?side2 A4.out).mono ?_); (case side1 => exact cb HR0.out); (case side2 => exact HC0.out); rintro e w40 ⟨rfl, hb⟩; refine ⟨_, rfl, ?_⟩; replace BK237 := kb BK237 hb; replace HB := hs HB hb; obtain ⟨_,_,_,_,_,_⟩ := cf3 BK237))
    go_ret
    exact fin
   ·rw [if_neg c38] at H
    have c38b0 := beq_eq_false_iff_ne.mpr c38
    have c38b1 := bne_iff_ne.mpr c38
    have c38b2 : ¬ (l2_1 = []) := fun h_ => c38 (by rw [h_]; rfl)
    obtain rfl := Option.some.inj H; clear H
    go_enter Try.func19, Try.ntmps19
    go_wp2_with (first | ((with_reducible refine gd 5 rfl ?_); (try (refine gate_guard (by rfl) ?_; dsimp only)); refine bx 5 #[.bool false, .slice A2_1 l2_1.length c2_1, .slice A2_2 l2_2.length c2_2] 26 ?_; intro gb237 hg w42 hbox hb; have BK237 := Aside0.mk hbox; have GW237 := hz HB hg; have GE237 := hz HB hg; replace HB := hs HB hb; clear hb hbox hg) | ((with_reducible refine gc 29 rfl ?_); refine gl (some 10) Try.func29 #[.slice A0 l0.length c0] rfl ?_; (with_reducible refine (spec_ClassesOk.calls k _ _ l0 true _ ?side1 ?side2 A4.out).mono ?_); (case side1 => exact cb HR0.out); (case side2 => exact HC0.out); rintro e w43 ⟨rfl, hb⟩; refine ⟨_, rfl, ?_⟩; replace BK237 := kb BK237 hb; replace HB := hs HB hb; obtain ⟨_,_,_,_,_,_⟩ := cf3 BK237))
    go_ret
    exact fin
 ·replace c5 := Bool.eq_false_iff.mpr c5
  subst c5
  replace H := ie H
  obtain rfl := Option.some.inj H; clear H
  go_enter Try.func19, Try.ntmps19
  go_wp2_with (first | ((with_reducible refine gd 5 rfl ?_); (try (refine gate_guard (by rfl) ?_; dsimp only)); refine bx 5 #[.bool a2_0, .slice A2_1 l2_1.length c2_1, .slice A2_2 l2_2.length c2_2] 26 ?_; intro gb237 hg w45 hbox hb; have BK237 := Aside0.mk hbox; have GW237 := hz HB hg; have GE237 := hz HB hg; replace HB := hs HB hb; clear hb hbox hg) | ((with_reducible refine gc 29 rfl ?_); refine gl (some 10) Try.func29 #[.slice A0 l0.length c0] rfl ?_; (with_reducible refine (spec_ClassesOk.calls k _ _ l0 false _ ?side1 ?side2 A4.out).mono ?_); (case side1 => exact cb HR0.out); (case side2 => exact HC0.out); rintro e w46 ⟨rfl, hb⟩; refine ⟨_, rfl, ?_⟩; replace BK237 := kb BK237 hb; replace HB := hs HB hb))
  go_ret
  exact fin
end Go.Proofs.Ytchegijjjakmpaa.P

end
section

namespace Go.Proofs.Ytchegijjjakmpaa.P
open Go.RowKit Go.Proofs.YtchegijjjakmpaaW.PrintWords Go.Proofs.YtchegijjjakmpaaW.PrintLast Go.Proofs.YtchegijjjakmpaaW.PrintMore
attribute [local go_sem] max2_int min2_int max_two min_two max_three min_three max_four min_four
set_option linter.unusedVariables false
set_option linter.unusedSimpArgs false
set_option maxHeartbeats 8000000 in
set_option maxRecDepth 100000 in
theorem spec_l11Fits.calls (k : Nat) (A0 : Option Addr) (c0 : Nat) (l0 : List (S48)) (a1_0 : Bool) (A1_1 : Option Addr) (c1_1 : Nat) (l1_1 : List Int) (A1_2 : Option Addr) (c1_2 : Nat) (l1_2 : List Int) (a2_0 : Bool) (A2_1 : Option Addr) (c2_1 : Nat) (l2_1 : List Int) (A2_2 : Option Addr) (c2_2 : Nat) (l2_2 : List Int) (r : Bool) (w : World) (hr0 : Kd.C k48 w A0 l0.length l0) (hc0 : l0.length ≤ c0) (hr1_1 : Kd.C (Kd.int .i64) w A1_1 l1_1.length l1_1) (hc1_1 : l1_1.length ≤ c1_1) (hr1_2 : Kd.C (Kd.int .i64) w A1_2 l1_2.length l1_2) (hc1_2 : l1_2.length ≤ c1_2) (hr2_1 : Kd.C (Kd.int .i64) w A2_1 l2_1.length l2_1) (hc2_1 : l2_1.length ≤ c2_1) (hr2_2 : Kd.C (Kd.int .i64) w A2_2 l2_2.length l2_2) (hc2_2 : l2_2.length ≤ c2_2) (h : spec_l11Fits.f k l0 a1_0 l1_1 l1_2 a2_0 l2_1 l2_2 = some r) :
  Calls Try.prog 11 #[.slice A0 l0.length c0, .agg #[.bool a1_0, .slice A1_1 l1_1.length c1_1, .slice A1_2 l1_2.length c1_2], .agg #[.bool a2_0, .slice A2_1 l2_1.length c2_1, .slice A2_2 l2_2.length c2_2]] w fun e w' => e = .returned (.bool r) ∧ Below w.heap.size w w' := by
 have hu26 := Try.underlying26
 have HR0 := Aside0.mk hr0
 have HC0 := Aside0.mk hc0
 clear hr0 hc0
 have HR1_1 := Aside0.mk hr1_1
 have HC1_1 := Aside0.mk hc1_1
 clear hr1_1 hc1_1
 have HR1_2 := Aside0.mk hr1_2
 have HC1_2 := Aside0.mk hc1_2
 clear hr1_2 hc1_2
 have HR2_1 := Aside0.mk hr2_1
 have HC2_1 := Aside0.mk hc2_1
 clear hr2_1 hc2_1
 have HR2_2 := Aside0.mk hr2_2
 have HC2_2 := Aside0.mk hc2_2
 clear hr2_2 hc2_2
 have HB := Aside0.mk (Below.refl w.heap.size w)
 have H : (if a1_0 = true then (if a2_0 = true then ((spec_ShapeOk.f k l0 (l1_1.length : Int) a1_0 l1_1 l1_2).bind fun t246 => (if t246 = true then ((spec_ShapeOk.f k l0 (l1_1.length : Int) a2_0 l2_1 l2_2).bind fun t247 => (if t247 = true then (some ((l1_2.length : Int) == (l2_2.length : Int))) else (some false))) else (some false))) else (some false)) else (some false)) = some r := h
 clear h
 by_cases c4 : a1_0 = true
 ·subst c4
  replace H := it H
  by_cases c5 : a2_0 = true
  ·subst c5
   replace H := it H
   obtain ⟨t246, A6, H⟩ := ob H
   by_cases c7 : t246 = true
   ·subst c7
    replace H := it H
    obtain ⟨t247, A8, H⟩ := ob H
    by_cases c9 : t247 = true
    ·subst c9
     replace H := it H
     obtain rfl := Option.some.inj H; clear H
     go_enter Try.func11, Try.ntmps11
     go_wp2_with (first | ((with_reducible refine gd 4 rfl ?_); (try (refine gate_guard (by rfl) ?_; dsimp only)); refine bx 4 #[.bool true, .slice A1_1 l1_1.length c1_1, .slice A1_2 l1_2.length c1_2] 26 ?_; intro gb244 hg w10 hbox hb; have BK244 := Aside0.mk hbox; have GW244 := hz HB hg; have GE244 := hz HB hg; replace HB := hs HB hb; clear hb hbox hg) | ((with_reducible refine gd 5 rfl ?_); (try (refine gate_guard (by rfl) ?_; dsimp only)); refine bx 5 #[.bool true, .slice A2_1 l2_1.length c2_1, .slice A2_2 l2_2.length c2_2] 26 ?_; intro gb245 hg w11 hbox hb; have BK245 := Aside0.mk hbox; have GW245 := hz HB hg; have GE245 := hz HB hg; have NB244_245 := nl BK244 hg; have NB245_244 := ng BK244 hg; replace BK244 := kb BK244 hb; replace HB := hs HB hb; clear hb hbox hg; have hnb12 := NB244_245.out; have hnc12 := NB245_244.out; obtain ⟨_,_,_,_,_,_⟩ := cf3 BK244; obtain ⟨_,_,_,_,_,_⟩ := cf3 BK245) | (go_at_call 19; (with_reducible refine (spec_ShapeOk.calls k _ _ l0 (l1_1.length : Int) true _ _ l1_1 _ _ l1_2 true _ ?side1 ?side2 ?side3 ?side4 ?side5 ?side6 A6.out).mono ?_); (case side1 => exact cb HR0.out); (case side2 => exact HC0.out); (case side3 => exact cb HR1_1.out); (case side4 => exact HC1_1.out); (case side5 => exact cb HR1_2.out); (case side6 => exact HC1_2.out); rintro e w15 ⟨rfl, hb⟩; replace BK244 := kb BK244 hb; replace BK245 := kb BK245 hb; replace HB := hs HB hb; obtain ⟨_,_,_,_,_,_⟩ := cf3 BK244; obtain ⟨_,_,_,_,_,_⟩ := cf3 BK245) | (go_at_call 19; (with_reducible refine (spec_ShapeOk.calls k _ _ l0 (l1_1.length : Int) true _ _ l2_1 _ _ l2_2 true _ ?side1 ?side2 ?side3 ?side4 ?side5 ?side6 A8.out).mono ?_); (case side1 => exact cb HR0.out); (case side2 => exact HC0.out); (case side3 => exact cb HR2_1.out); (case side4 => exact HC2_1.out); (case side5 => exact cb HR2_2.out); (case side6 => exact HC2_2.out); rintro e w18 ⟨rfl, hb⟩; replace BK244 := kb BK244 hb; replace BK245 := kb BK245 hb; replace HB := hs HB hb; obtain ⟨_,_,_,_,_,_⟩ := cf3 BK244; obtain ⟨_,_,_,_,_,_⟩ := cf3 BK245))
     go_ret
     exact fin
    ·replace c9 := Bool.eq_false_iff.mpr c9
     subst c9
     replace H := ie H
     obtain rfl := Option.some.inj H; clear H
     go_enter Try.func11, Try.ntmps11
     go_wp2_with (first | ((with_reducible refine gd 4 rfl ?_); (try (refine gate_guard (by rfl) ?_; dsimp only)); refine bx 4 #[.bool true, .slice A1_1 l1_1.length c1_1, .slice A1_2 l1_2.length c1_2] 26 ?_; intro gb244 hg w21 hbox hb; have BK244 := Aside0.mk hbox; have GW244 := hz HB hg; have GE244 := hz HB hg; replace HB := hs HB hb; clear hb hbox hg) | ((with_reducible refine gd 5 rfl ?_); (try (refine gate_guard (by rfl) ?_; dsimp only)); refine bx 5 #[.bool true, .slice A2_1 l2_1.length c2_1, .slice A2_2 l2_2.length c2_2] 26 ?_; intro gb245 hg w22 hbox hb; have BK245 := Aside0.mk hbox; have GW245 := hz HB hg; have GE245 := hz HB hg; have NB244_245 := nl BK244 hg; have NB245_244 := ng BK244 hg; replace BK244 := kb BK244 hb; replace HB := hs HB hb; clear hb hbox hg; have hnb23 := NB244_245.out; have hnc23 := NB245_244.out; obtain ⟨_,_,_,_,_,_⟩ := cf3 BK244; obtain ⟨_,_,_,_,_,_⟩ := cf3 BK245) | (go_at_call 19; (with_reducible refine (spec_ShapeOk.calls k _ _ l0 (l1_1.length : Int) true _ _ l1_1 _ _ l1_2 true _ ?side1 ?side2 ?side3 ?side4 ?side5 ?side6 A6.out).mono ?_); (case side1 => exact cb HR0.out); (case side2 => exact HC0.out); (case side3 => exact cb HR1_1.out); (case side4 => exact HC1_1.out); (case side5 => exact cb HR1_2.out); (case side6 => exact HC1_2.out); rintro e w26 ⟨rfl, hb⟩; replace BK244 := kb BK244 hb; replace BK245 := kb BK245 hb; replace HB := hs HB hb; obtain ⟨_,_,_,_,_,_⟩ := cf3 BK244; obtain ⟨_,_,_,_,_,_⟩ := cf3 BK245) | (go_at_call 19; (with_reducible refine (spec_ShapeOk.calls k _ _ l0 (l1_1.length : Int) true _ _ l2_1 _ _ l2_2 false _ ?side1 ?side2 ?side3 ?side4 ?side5 ?side6 A8.out).mono ?_); (case side1 => exact cb HR0.out); (case side2 => exact HC0.out); (case side3 => exact cb HR2_1.out); (case side4 => exact HC2_1.out); (case side5 => exact cb HR2_2.out); (case side6 => exact HC2_2.out); rintro e w29 ⟨rfl, hb⟩; replace BK244 := kb BK244 hb; replace BK245 := kb BK245 hb; replace HB := hs HB hb))
     go_ret
     exact fin
   ·replace c7 := Bool.eq_false_iff.mpr c7
    subst c7
    replace H := ie H
    obtain rfl := Option.some.inj H; clear H
    go_enter Try.func11, Try.ntmps11
    go_wp2_with (first | ((with_reducible refine gd 4 rfl ?_); (try (refine gate_guard (by rfl) ?_; dsimp only)); refine bx 4 #[.bool true, .slice A1_1 l1_1.length c1_1, .slice A1_2 l1_2.length c1_2] 26 ?_; intro gb244 hg w30 hbox hb; have BK244 := Aside0.mk hbox; have GW244 := hz HB hg; have GE244 := hz HB hg; replace HB := hs HB hb; clear hb hbox hg) | ((with_reducible refine gd 5 rfl ?_); (try (refine gate_guard (by rfl) ?_; dsimp only)); refine bx 5 #[.bool true, .slice A2_1 l2_1.length c2_1, .slice A2_2 l2_2.length c2_2] 26 ?_; intro gb245 hg w31 hbox hb; have BK245 := Aside0.mk hbox; have GW245 := hz HB hg; have GE245 := hz HB hg; have NB244_245 := nl BK244 hg; have NB245_244 := ng BK244 hg; replace BK244 := kb BK244 hb; replace HB := hs HB hb; clear hb hbox hg; have hnb32 := NB244_245.out; have hnc32 := NB245_244.out; obtain ⟨_,_,_,_,_,_⟩ := cf3 BK244; obtain ⟨_,_,_,_,_,_⟩ := cf3 BK245) | (go_at_call 19; (with_reducible refine (spec_ShapeOk.calls k _ _ l0 (l1_1.length : Int) true _ _ l1_1 _ _ l1_2 false _ ?side1 ?side2 ?side3 ?side4 ?side5 ?side6 A6.out).mono ?_); (case side1 => exact cb HR0.out); (case side2 => exact HC0.out); (case side3 => exact cb HR1_1.out); (case side4 => exact HC1_1.out); (case side5 => exact cb HR1_2.out); (case side6 => exact HC1_2.out); rintro e w35 ⟨rfl, hb⟩; replace BK244 := kb BK244 hb; replace BK245 := kb BK245 hb; replace HB := hs HB hb))
    go_ret
    exact fin
  ·replace c5 := Bool.eq_false_iff.mpr c5
   subst c5
   replace H := ie H
   obtain rfl := Option.some.inj H; clear H
   go_enter Try.func11, Try.ntmps11
   go_wp2
   go_ret
   exact fin
 ·replace c4 := Bool.eq_false_iff.mpr c4
  subst c4
  replace H := ie H
  obtain rfl := Option.some.inj H; clear H
  go_enter Try.func11, Try.ntmps11
  go_wp2
  go_ret
  exact fin
end Go.Proofs.Ytchegijjjakmpaa.P

end
section

namespace Go.Proofs.Ytchegijjjakmpaa.P
open Go.RowKit Go.Proofs.YtchegijjjakmpaaW.PrintWords Go.Proofs.YtchegijjjakmpaaW.PrintLast Go.Proofs.YtchegijjjakmpaaW.PrintMore
attribute [local go_sem] max2_int min2_int max_two min_two max_three min_three max_four min_four
set_option linter.unusedVariables false
set_option linter.unusedSimpArgs false
def spec_l11Copy.T1 : Bool × List (List Nat × List Nat) := (true, [([], []), ([0], [0]), ([], []), ([], []), ([3], [3]), ([2, 4], [2, 4]), ([], []), ([], []), ([7], [7]), ([6, 8, 5], [6, 8]), ([1, 5, 9], [1, 5, 9]), ([10, 9, 0, 1, 2, 3, 4, 5, 6, 7, 8, 9, 10], [10])])
def spec_l11Copy.B1 : List Nat := [0, 1, 0, 0, 8, 28, 0, 0, 128, 508, 1023, 2047]
theorem spec_l11Copy.tab1 : rtab .any (opsOf Try.f20 1) = spec_l11Copy.T1 := by kernel_rfl
theorem spec_l11Copy.bits1 : waitsOk spec_l11Copy.T1.2 spec_l11Copy.B1 = true := by kernel_rfl
set_option maxHeartbeats 8000000 in
set_option maxRecDepth 100000 in
theorem spec_l11Copy.calls (a0_0 : Bool) (A0_1 : Option Addr) (c0_1 : Nat) (l0_1 : List Int) (A0_2 : Option Addr) (c0_2 : Nat) (l0_2 : List Int) (r1 : Bool) (r2 : List Int) (r3 : List Int) (w : World) (hr0_1 : Kd.C (Kd.int .i64) w A0_1 l0_1.length l0_1) (hc0_1 : l0_1.length ≤ c0_1) (hr0_2 : Kd.C (Kd.int .i64) w A0_2 l0_2.length l0_2) (hc0_2 : l0_2.length ≤ c0_2) (h : spec_l11Copy.f a0_0 l0_1 l0_2 = some (r1, r2, r3)) :
  Calls Try.prog 20 #[.agg #[.bool a0_0, .slice A0_1 l0_1.length c0_1, .slice A0_2 l0_2.length c0_2]] w fun e w' => ∃ v1_ v2_ : Value, e = .returned (.agg #[.bool r1, v1_, v2_]) ∧ Kd.R (Kd.int .i64) 3 w' w.heap.size (fun k_ => some k_ ≠ (v2_ : Value).ownBlock) v1_ r2 ∧ Kd.R (Kd.int .i64) 3 w' w.heap.size (fun k_ => some k_ ≠ (v1_ : Value).ownBlock) v2_ r3 ∧ Below w.heap.size w w' := by
 have hu26 := Try.underlying26
 have HR0_1 := Aside0.mk hr0_1
 have HC0_1 := Aside0.mk hc0_1
 clear hr0_1 hc0_1
 have HR0_2 := Aside0.mk hr0_2
 have HC0_2 := Aside0.mk hc0_2
 clear hr0_2 hc0_2
 have HB := Aside0.mk (Below.refl w.heap.size w)
 have H : ((some (([] : List Int) : List Int)).bind fun y250 => (if y250.length + l0_1.length < 17592186044416 then ((some (([] : List Int) : List Int)).bind fun y256 => (if y256.length + l0_2.length < 17592186044416 then (some (a0_0, (y250 ++ l0_1), (y256 ++ l0_2))) else (none))) else (none))) = some (r1, r2, r3) := h
 clear h
 obtain ⟨y250, hy250⟩ : ∃ y_ : List Int, y_ = (([] : List Int)) := ⟨_, rfl⟩
 replace H : (if y250.length + l0_1.length < 17592186044416 then ((some (([] : List Int) : List Int)).bind fun y256 => (if y256.length + l0_2.length < 17592186044416 then (some (a0_0, (y250 ++ l0_1), (y256 ++ l0_2))) else (none))) else (none)) = some (r1, r2, r3) := by first | (rw [hy250]; with_reducible exact H) | (have H2_ := (Option.bind_some _ _).symm.trans H; rw [hy250]; with_reducible exact H2_) | (have H2_ := (Option.bind_some _ _).symm.trans H; with_reducible exact H2_) | with_reducible exact H | (rw [hy250]; exact H) | exact H
 have Ny250 := Aside0.mk hy250
 clear hy250
 by_cases c2 : y250.length + l0_1.length < 17592186044416
 ·rw [if_pos c2] at H
  have LMc2 := Aside0.mk c2
  clear c2
  obtain ⟨y253, hy253⟩ : ∃ y_ : List Int, y_ = (y250 ++ l0_1) := ⟨_, rfl⟩
  replace H : ((some (([] : List Int) : List Int)).bind fun y256 => (if y256.length + l0_2.length < 17592186044416 then (some (a0_0, y253, (y256 ++ l0_2))) else (none))) = some (r1, r2, r3) := by first | (rw [hy253]; with_reducible exact H) | (have H2_ := (Option.bind_some _ _).symm.trans H; rw [hy253]; with_reducible exact H2_) | (have H2_ := (Option.bind_some _ _).symm.trans H; with_reducible exact H2_) | with_reducible exact H | (rw [hy253]; exact H) | exact H
  have Ny253 := Aside0.mk hy253
  clear hy253
  obtain ⟨y256, hy256⟩ : ∃ y_ : List Int, y_ = (([] : List Int)) := ⟨_, rfl⟩
  replace H : (if y256.length + l0_2.length < 17592186044416 then (some (a0_0, y253, (y256 ++ l0_2))) else (none)) = some (r1, r2, r3) := by first | (rw [hy256]; with_reducible exact H) | (have H2_ := (Option.bind_some _ _).symm.trans H; rw [hy256]; with_reducible exact H2_) | (have H2_ := (Option.bind_some _ _).symm.trans H; with_reducible exact H2_) | with_reducible exact H | (rw [hy256]; exact H) | exact H
  have Ny256 := Aside0.mk hy256
  clear hy256
  by_cases c3 : y256.length + l0_2.length < 17592186044416
  ·rw [if_pos c3] at H
   have LMc3 := Aside0.mk c3
   clear c3
   obtain ⟨y259, hy259⟩ : ∃ y_ : List Int, y_ = (y256 ++ l0_2) := ⟨_, rfl⟩
   replace H : (some (a0_0, y253, y259)) = some (r1, r2, r3) := by first | (rw [hy259]; with_reducible exact H) | (have H2_ := (Option.bind_some _ _).symm.trans H; rw [hy259]; with_reducible exact H2_) | (have H2_ := (Option.bind_some _ _).symm.trans H; with_reducible exact H2_) | with_reducible exact H | (rw [hy259]; exact H) | exact H
   have Ny259 := Aside0.mk hy259
   clear hy259
   simp only [Option.some.injEq, Prod.mk.injEq] at H
   obtain ⟨rfl, rfl, rfl⟩ := H
   go_enter Try.func20, Try.ntmps20
   try go_wp2_with (first | ((with_reducible refine gd 1 rfl ?_); refine bx 1 #[.bool a0_0, .slice A0_1 l0_1.length c0_1, .slice A0_2 l0_2.length c0_2] 26 ?_; intro gb248 hg w4 hbox hb; have BK248 := Aside0.mk hbox; have GW248 := hz HB hg; have GE248 := hz HB hg; replace HB := hs HB hb; clear hb hbox hg) | ((with_reducible refine gd 2 rfl ?_); refine bx 2 #[.bool false, .slice none 0 0, .slice none 0 0] 26 ?_; intro gb249 hg w5 hbox hb; have BK249 := Aside0.mk hbox; have GW249 := hz HB hg; have GE249 := hz HB hg; have NB248_249 := nl BK248 hg; have NB249_248 := ng BK248 hg; replace BK248 := kb BK248 hb; replace HB := hs HB hb; clear hb hbox hg))
   replace BK248 := Aside0.mk (blk_drew BK248.out)
   replace BK249 := Aside0.mk (blk_drew BK249.out)
   replace HB := Aside0.mk (below_drew1 HB.out)
   refine start_ (n := 12) (S := fun w' => w'.cell? ⟨gb248, 0, none⟩ = some (.bool a0_0) ∧ w'.cell? ⟨gb248, 1, none⟩ = some (.slice A0_1 l0_1.length c0_1) ∧ w'.cell? ⟨gb248, 2, none⟩ = some (.slice A0_2 l0_2.length c0_2)) (ds := []) #[false, false, false, false, false, false, false, false, false, false, false, false] (by kernel_rfl) rfl rfl ⟨(blk_cell BK248.out 0).trans rfl, (blk_cell BK248.out 1).trans rfl, (blk_cell BK248.out 2).trans rfl⟩ (fun hHeld => ?_); refine with_tabW spec_l11Copy.tab1 spec_l11Copy.bits1 (fun HT_ HW_ => ?_)
   generalize w5.drew = w6 at BK248 BK249 HB hHeld ⊢
   refine pu 0 3 #[true, false, false, false, false, false, false, false, false, false, false, false] HT_ rfl rfl ?_
   refine pu 3 6 #[true, false, false, true, false, false, false, false, false, false, false, false] HT_ rfl rfl ?_
   refine pu 7 10 #[true, false, false, true, false, false, false, true, false, false, false, false] HT_ rfl rfl ?_
   refine ta 1 4 #[true, true, false, true, false, false, false, true, false, false, false, false] HT_ HW_ hHeld rfl rfl ?_
   refine ta 4 7 #[true, true, false, true, true, false, false, true, false, false, false, false] HT_ HW_ hHeld rfl rfl ?_
   refine ta 8 11 #[true, true, false, true, true, false, false, true, true, false, false, false] HT_ HW_ hHeld rfl rfl ?_
   refine join_ (σ := Value × Value × Value) 3 #[true, true, true, true, true, true, true, true, true, false, false, false] (fun s_ => [(5, s_.1), (8, s_.2.1), (9, s_.2.2)]) (fun s_ w' => (w'.cell? ⟨gb248, 0, none⟩ = some (.bool a0_0) ∧ w'.cell? ⟨gb248, 1, none⟩ = some (.slice A0_1 l0_1.length c0_1) ∧ w'.cell? ⟨gb248, 2, none⟩ = some (.slice A0_2 l0_2.length c0_2)) ∧ (Kd.R (Kd.int .i64) 3 w' w.heap.size (fun k_ => some k_ ≠ (s_.2.2 : Value).ownBlock) s_.2.1 y253) ∧ (Kd.R (Kd.int .i64) 3 w' w.heap.size (fun k_ => some k_ ≠ (s_.2.1 : Value).ownBlock) s_.2.2 y256) ∧ (w'.heap[gb248]? = some (.cells #[.bool a0_0, .slice A0_1 l0_1.length c0_1, .slice A0_2 l0_2.length c0_2] 26 (0, 0))) ∧ (w'.heap[gb249]? = some (.cells #[.bool false, .slice none 0 0, .slice none 0 0] 26 (0, 0))) ∧ (Below w.heap.size w w')) ?_ ?_
   rotate_left
   ·intro hCont
    refine two_ (i := 2) (j := 6) (Ni := some 5) (Nj := some 9) #[true, true, true, true, true, false, false, true, true, false, false, false] #[true, true, false, true, true, false, true, true, true, false, false, false] rfl rfl rfl rfl (two_of HT_.out (by kernel_rfl)) (by decide) (by decide) (fun K hK => ?_) (fun K hK => ?_)
    ·skip
     refine Kd.R_lit_step (Kd.int .i64) _ 3 ?hg (N := 5) ?hd (xs := ([] : List Int)) (inner := []) (ok := fun _ => True) (okp := fun _ => True) ?hr ?hp (fun _ hk => hk) trivial (Below.refl _ _) (Nat.le_refl _) (by simp) ?_; (case hd => rfl); (case hg => rfl); (case hr => first | (go_simp; done) | (go_simp; rfl)); (case hp => exact (Reps.none _ _))
     intro v251 w7 ho8 hb hg_ hnew_
     clear hg_ hnew_
     (first | rw [← Ny250.out] at ho8 | (simp only [Int.reduceToNat] at ho8; rw [← Ny250.out] at ho8))
     have HO252 := Aside0.mk (Kd.R_lower ho8 (below_size bl))
     replace BK248 := kb BK248 hb
     replace BK249 := kb BK249 hb
     replace HB := hs HB hb
     clear hb ho8
     refine hK.out _ _ ⟨(blk_cell BK248.out 0).trans rfl, (blk_cell BK248.out 1).trans rfl, (blk_cell BK248.out 2).trans rfl⟩ (fun hHeld => ?_)
     clear hK K
     refine no 5 ?_
     refine two_ (i := 5) (j := 6) (Ni := some 8) (Nj := some 9) #[true, true, true, true, true, true, false, true, true, false, false, false] #[true, true, true, true, true, false, true, true, true, false, false, false] rfl rfl rfl rfl (two_of HT_.out (by kernel_rfl)) (by decide) (by decide) (fun K hK => ?_) (fun K hK => ?_)
     ·skip
      refine Kd.R_append_rows_step (Kd.int .i64) (w0 := w) w.heap.size (by rfl) (.tmp 5) (.tmp 7) 24 3 (.int .i64 0) 8 rfl Try.underlying24 info3 rfl (by decide) (by omega) v251 y250 l0_1 _ _ _ (fun _ => True) (fun _ => False) rfl rfl ?aO ?aR (fun _ _ h => h) (fun _ h => h.elim) ?aF ?aB ?aS ?aL ?_
      (case aR => repeat (first | exact (Kd.C_below HR0_1.out HB.out) | (with_reducible refine Kd.C_alloc ?_ _) | (with_reducible refine Kd.C_drewN ?_ _) | (with_reducible refine Kd.C_drew ?_)))
      (case aB => exact bl)
      (case aF => exact (fun _ _ => trivial))
      (case aO => exact HO252.out)
      (case aS => exact (below_size bl))
      (case aL => have := LMc2.out; omega)
      intro v254 w9 ho hb hg hat
      rw [← Ny253.out] at ho
      have n0_ := Aside0.mk (blk_grown (g := gb248) (o := .cells #[.bool a0_0, .slice A0_1 l0_1.length c0_1, .slice A0_2 l0_2.length c0_2] 26 (0, 0)) BK248.out hg (Kd.R_ne HO252.out BK248.out (by decide)))
      have n1_ := Aside0.mk (blk_grown (g := gb249) (o := .cells #[.bool false, .slice none 0 0, .slice none 0 0] 26 (0, 0)) BK249.out hg (Kd.R_ne HO252.out BK249.out (by decide)))
      have n2_ := Aside0.mk (hb)
      have n3_ := Aside0.mk (ho)
      clear BK248
      clear BK249
      clear HB
      clear HO252
      have BK248 := n0_
      have BK249 := n1_
      have HB := n2_
      have HO255 := n3_
      clear n0_ n1_ n2_ n3_
      clear ho hb hg hat
      refine hK.out _ _ ⟨(blk_cell BK248.out 0).trans rfl, (blk_cell BK248.out 1).trans rfl, (blk_cell BK248.out 2).trans rfl⟩ (fun hHeld => ?_)
      clear hK K
      refine no 8 ?_
      refine one_ (i := 6) (N := some 9) #[true, true, true, true, true, true, true, true, true, false, false, false] rfl rfl (one_of HT_.out (by kernel_rfl)) (by decide) (fun K hK => ?_)
      refine Kd.R_lit_step (Kd.int .i64) _ 3 ?hg (N := 9) ?hd (xs := ([] : List Int)) (inner := []) (ok := fun _ => True) (okp := fun _ => True) ?hr ?hp (fun _ hk => hk) trivial (Below.refl _ _) (Nat.le_refl _) (by simp) ?_; (case hd => rfl); (case hg => rfl); (case hr => first | (go_simp; done) | (go_simp; rfl)); (case hp => exact (Reps.none _ _))
      intro v257 w10 ho11 hb hg_ hnew_
      clear hg_ hnew_
      (first | rw [← Ny256.out] at ho11 | (simp only [Int.reduceToNat] at ho11; rw [← Ny256.out] at ho11))
      have HO258 := Aside0.mk (Kd.R_lower (Kd.R_new' ho11 (Kd.R_lt HO255.out)) (below_size bl))
      replace HO255 := Aside0.mk (Kd.R_elder' HO255.out (Kd.R_base ho11) hb)
      replace BK248 := kb BK248 hb
      replace BK249 := kb BK249 hb
      replace HB := hs HB hb
      clear hb ho11
      refine hK.out _ _ ⟨(blk_cell BK248.out 0).trans rfl, (blk_cell BK248.out 1).trans rfl, (blk_cell BK248.out 2).trans rfl⟩ (fun hHeld => ?_)
      clear hK K
      refine no 9 ?_
      exact norm_ (by simp only [putAll, Act.put, List.setIfInBounds_toArray, List.set_cons_zero, List.set_cons_succ]) (hCont (v251, v254, v257) _ ⟨hHeld, (Kd.R_mono HO255.out (fun _ hk => hk.2)), (Kd.R_mono HO258.out (fun _ hk => hk.2)), BK248.out, BK249.out, bl⟩)
     ·skip
      refine Kd.R_lit_step (Kd.int .i64) _ 3 ?hg (N := 9) ?hd (xs := ([] : List Int)) (inner := []) (ok := fun _ => True) (okp := fun _ => True) ?hr ?hp (fun _ hk => hk) trivial (Below.refl _ _) (Nat.le_refl _) (by simp) ?_; (case hd => rfl); (case hg => rfl); (case hr => first | (go_simp; done) | (go_simp; rfl)); (case hp => exact (Reps.none _ _))
      intro v257 w9 ho10 hb hg_ hnew_
      clear hg_ hnew_
      (first | rw [← Ny256.out] at ho10 | (simp only [Int.reduceToNat] at ho10; rw [← Ny256.out] at ho10))
      have HO258 := Aside0.mk (Kd.R_lower (Kd.R_new' ho10 (Kd.R_lt HO252.out)) (below_size bl))
      replace HO252 := Aside0.mk (Kd.R_elder' HO252.out (Kd.R_base ho10) hb)
      replace BK248 := kb BK248 hb
      replace BK249 := kb BK249 hb
      replace HB := hs HB hb
      clear hb ho10
      refine hK.out _ _ ⟨(blk_cell BK248.out 0).trans rfl, (blk_cell BK248.out 1).trans rfl, (blk_cell BK248.out 2).trans rfl⟩ (fun hHeld => ?_)
      clear hK K
      refine no 9 ?_
      refine one_ (i := 5) (N := some 8) #[true, true, true, true, true, true, true, true, true, false, false, false] rfl rfl (one_of HT_.out (by kernel_rfl)) (by decide) (fun K hK => ?_)
      refine Kd.R_append_rows_step (Kd.int .i64) (w0 := w) w.heap.size (by rfl) (.tmp 5) (.tmp 7) 24 3 (.int .i64 0) 8 rfl Try.underlying24 info3 rfl (by decide) (by omega) v251 y250 l0_1 _ _ _ (fun k_ => some k_ ≠ (v257 : Value).ownBlock) (fun _ => False) rfl rfl ?aO ?aR (fun _ _ h => h) (fun _ h => h.elim) ?aF ?aB ?aS ?aL ?_
      (case aR => repeat (first | exact (Kd.C_below HR0_1.out HB.out) | (with_reducible refine Kd.C_alloc ?_ _) | (with_reducible refine Kd.C_drewN ?_ _) | (with_reducible refine Kd.C_drew ?_)))
      (case aB => exact bl)
      (case aF => exact (fun k_ hk => Kd.fresh' (Kd.R_lt HO258.out) k_ hk))
      (case aO => exact (Kd.R_mono HO252.out (fun _ hk => hk.2)))
      (case aS => exact (below_size bl))
      (case aL => have := LMc2.out; omega)
      intro v254 w11 ho hb hg hat
      rw [← Ny253.out] at ho
      have n0_ := Aside0.mk (blk_grown (g := gb248) (o := .cells #[.bool a0_0, .slice A0_1 l0_1.length c0_1, .slice A0_2 l0_2.length c0_2] 26 (0, 0)) BK248.out hg (Kd.R_ne HO252.out BK248.out (by decide)))
      have n1_ := Aside0.mk (blk_grown (g := gb249) (o := .cells #[.bool false, .slice none 0 0, .slice none 0 0] 26 (0, 0)) BK249.out hg (Kd.R_ne HO252.out BK249.out (by decide)))
      have n2_ := Aside0.mk (Kd.R_after (ok := (fun _ => True)) HO258.out hg hat)
      have n3_ := Aside0.mk (hb)
      have n4_ := Aside0.mk (ho)
      clear BK248
      clear BK249
      clear HO258
      clear HB
      clear HO252
      have BK248 := n0_
      have BK249 := n1_
      have HO258 := n2_
      have HB := n3_
      have HO255 := n4_
      clear n0_ n1_ n2_ n3_ n4_
      clear ho hb hg hat
      refine hK.out _ _ ⟨(blk_cell BK248.out 0).trans rfl, (blk_cell BK248.out 1).trans rfl, (blk_cell BK248.out 2).trans rfl⟩ (fun hHeld => ?_)
      clear hK K
      refine no 8 ?_
      exact norm_ (by simp only [putAll, Act.put, List.setIfInBounds_toArray, List.set_cons_zero, List.set_cons_succ]) (hCont (v251, v254, v257) _ ⟨hHeld, HO255.out, (Kd.R_mono HO258.out (fun _ hk => hk.2)), BK248.out, BK249.out, bl⟩)
    ·skip
     refine Kd.R_lit_step (Kd.int .i64) _ 3 ?hg (N := 9) ?hd (xs := ([] : List Int)) (inner := []) (ok := fun _ => True) (okp := fun _ => True) ?hr ?hp (fun _ hk => hk) trivial (Below.refl _ _) (Nat.le_refl _) (by simp) ?_; (case hd => rfl); (case hg => rfl); (case hr => first | (go_simp; done) | (go_simp; rfl)); (case hp => exact (Reps.none _ _))
     intro v257 w7 ho8 hb hg_ hnew_
     clear hg_ hnew_
     (first | rw [← Ny256.out] at ho8 | (simp only [Int.reduceToNat] at ho8; rw [← Ny256.out] at ho8))
     have HO258 := Aside0.mk (Kd.R_lower ho8 (below_size bl))
     replace BK248 := kb BK248 hb
     replace BK249 := kb BK249 hb
     replace HB := hs HB hb
     clear hb ho8
     refine hK.out _ _ ⟨(blk_cell BK248.out 0).trans rfl, (blk_cell BK248.out 1).trans rfl, (blk_cell BK248.out 2).trans rfl⟩ (fun hHeld => ?_)
     clear hK K
     refine no 9 ?_
     refine one_ (i := 2) (N := some 5) #[true, true, true, true, true, false, true, true, true, false, false, false] rfl rfl (one_of HT_.out (by kernel_rfl)) (by decide) (fun K hK => ?_)
     refine Kd.R_lit_step (Kd.int .i64) _ 3 ?hg (N := 5) ?hd (xs := ([] : List Int)) (inner := []) (ok := fun _ => True) (okp := fun _ => True) ?hr ?hp (fun _ hk => hk) trivial (Below.refl _ _) (Nat.le_refl _) (by simp) ?_; (case hd => rfl); (case hg => rfl); (case hr => first | (go_simp; done) | (go_simp; rfl)); (case hp => exact (Reps.none _ _))
     intro v251 w9 ho10 hb hg_ hnew_
     clear hg_ hnew_
     (first | rw [← Ny250.out] at ho10 | (simp only [Int.reduceToNat] at ho10; rw [← Ny250.out] at ho10))
     have HO252 := Aside0.mk (Kd.R_lower (Kd.R_new' ho10 (Kd.R_lt HO258.out)) (below_size bl))
     replace HO258 := Aside0.mk (Kd.R_elder' HO258.out (Kd.R_base ho10) hb)
     replace BK248 := kb BK248 hb
     replace BK249 := kb BK249 hb
     replace HB := hs HB hb
     clear hb ho10
     refine hK.out _ _ ⟨(blk_cell BK248.out 0).trans rfl, (blk_cell BK248.out 1).trans rfl, (blk_cell BK248.out 2).trans rfl⟩ (fun hHeld => ?_)
     clear hK K
     refine no 5 ?_
     refine one_ (i := 5) (N := some 8) #[true, true, true, true, true, true, true, true, true, false, false, false] rfl rfl (one_of HT_.out (by kernel_rfl)) (by decide) (fun K hK => ?_)
     refine Kd.R_append_rows_step (Kd.int .i64) (w0 := w) w.heap.size (by rfl) (.tmp 5) (.tmp 7) 24 3 (.int .i64 0) 8 rfl Try.underlying24 info3 rfl (by decide) (by omega) v251 y250 l0_1 _ _ _ (fun k_ => some k_ ≠ (v257 : Value).ownBlock) (fun _ => False) rfl rfl ?aO ?aR (fun _ _ h => h) (fun _ h => h.elim) ?aF ?aB ?aS ?aL ?_
     (case aR => repeat (first | exact (Kd.C_below HR0_1.out HB.out) | (with_reducible refine Kd.C_alloc ?_ _) | (with_reducible refine Kd.C_drewN ?_ _) | (with_reducible refine Kd.C_drew ?_)))
     (case aB => exact bl)
     (case aF => exact (fun k_ hk => Kd.fresh' (Kd.R_lt HO258.out) k_ hk))
     (case aO => exact (Kd.R_mono HO252.out (fun _ hk => hk.2)))
     (case aS => exact (below_size bl))
     (case aL => have := LMc2.out; omega)
     intro v254 w11 ho hb hg hat
     rw [← Ny253.out] at ho
     have n0_ := Aside0.mk (blk_grown (g := gb248) (o := .cells #[.bool a0_0, .slice A0_1 l0_1.length c0_1, .slice A0_2 l0_2.length c0_2] 26 (0, 0)) BK248.out hg (Kd.R_ne HO252.out BK248.out (by decide)))
     have n1_ := Aside0.mk (blk_grown (g := gb249) (o := .cells #[.bool false, .slice none 0 0, .slice none 0 0] 26 (0, 0)) BK249.out hg (Kd.R_ne HO252.out BK249.out (by decide)))
     have n2_ := Aside0.mk (Kd.R_after (ok := (fun _ => True)) HO258.out hg hat)
     have n3_ := Aside0.mk (hb)
     have n4_ := Aside0.mk (ho)
     clear BK248
     clear BK249
     clear HO258
     clear HB
     clear HO252
     have BK248 := n0_
     have BK249 := n1_
     have HO258 := n2_
     have HB := n3_
     have HO255 := n4_
     clear n0_ n1_ n2_ n3_ n4_
     clear ho hb hg hat
     refine hK.out _ _ ⟨(blk_cell BK248.out 0).trans rfl, (blk_cell BK248.out 1).trans rfl, (blk_cell BK248.out 2).trans rfl⟩ (fun hHeld => ?_)
     clear hK K
     refine no 8 ?_
     exact norm_ (by simp only [putAll, Act.put, List.setIfInBounds_toArray, List.set_cons_zero, List.set_cons_succ]) (hCont (v251, v254, v257) _ ⟨hHeld, HO255.out, (Kd.R_mono HO258.out (fun _ hk => hk.2)), BK248.out, BK249.out, bl⟩)
   rintro ⟨v251, v254, v257⟩ w12 ⟨hS_, h0_, h1_, h2_, h3_, h4_⟩
   have n0_ : Aside0 (Kd.R (Kd.int .i64) 3 w12 w.heap.size (fun k_ => some k_ ≠ (v257 : Value).ownBlock) v254 y253) := ⟨h0_⟩
   have n1_ : Aside0 (Kd.R (Kd.int .i64) 3 w12 w.heap.size (fun k_ => some k_ ≠ (v254 : Value).ownBlock) v257 y256) := ⟨h1_⟩
   have n2_ : Aside0 (w12.heap[gb248]? = some (.cells #[.bool a0_0, .slice A0_1 l0_1.length c0_1, .slice A0_2 l0_2.length c0_2] 26 (0, 0))) := ⟨h2_⟩
   have n3_ : Aside0 (w12.heap[gb249]? = some (.cells #[.bool false, .slice none 0 0, .slice none 0 0] 26 (0, 0))) := ⟨h3_⟩
   have n4_ : Aside0 (Below w.heap.size w w12) := ⟨h4_⟩
   clear BK248
   clear BK249
   clear HB
   clear h0_ h1_ h2_ h3_ h4_
   have HO255 := n0_
   have HO258 := n1_
   have BK248 := n2_
   have BK249 := n3_
   have HB := n4_
   clear n0_ n1_ n2_ n3_ n4_
   have hHeld : w12.cell? ⟨gb248, 0, none⟩ = some (.bool a0_0) ∧ w12.cell? ⟨gb248, 1, none⟩ = some (.slice A0_1 l0_1.length c0_1) ∧ w12.cell? ⟨gb248, 2, none⟩ = some (.slice A0_2 l0_2.length c0_2) := hS_
   refine norm_ (a' := ?_) ?_ ?_
   rotate_left
   ·simp only [putAll, Act.put, List.setIfInBounds_toArray, List.set_cons_zero, List.set_cons_succ]
    rfl
   refine one_ (i := 9) (N := some 12) #[true, true, true, true, true, true, true, true, true, true, false, false] rfl rfl (one_of HT_.out (by kernel_rfl)) (by decide) (fun K hK => ?_)
   refine Kd.R_append_rows_step (Kd.int .i64) (w0 := w) w.heap.size (by rfl) (.tmp 9) (.tmp 11) 24 3 (.int .i64 0) 8 rfl Try.underlying24 info3 rfl (by decide) (by omega) v257 y256 l0_2 _ _ _ (fun k_ => some k_ ≠ (v254 : Value).ownBlock) (fun _ => False) rfl rfl ?aO ?aR (fun _ _ h => h) (fun _ h => h.elim) ?aF ?aB ?aS ?aL ?_
   (case aR => repeat (first | exact (Kd.C_below HR0_2.out HB.out) | (with_reducible refine Kd.C_alloc ?_ _) | (with_reducible refine Kd.C_drewN ?_ _) | (with_reducible refine Kd.C_drew ?_)))
   (case aB => exact bl)
   (case aF => exact (fun k_ hk => Kd.fresh' (Kd.R_lt HO255.out) k_ hk))
   (case aO => exact HO258.out)
   (case aS => exact (below_size bl))
   (case aL => have := LMc3.out; omega)
   intro v260 w13 ho hb hg hat
   rw [← Ny259.out] at ho
   have n0_ := Aside0.mk (blk_grown (g := gb248) (o := .cells #[.bool a0_0, .slice A0_1 l0_1.length c0_1, .slice A0_2 l0_2.length c0_2] 26 (0, 0)) BK248.out hg (Kd.R_ne HO258.out BK248.out (by decide)))
   have n1_ := Aside0.mk (blk_grown (g := gb249) (o := .cells #[.bool false, .slice none 0 0, .slice none 0 0] 26 (0, 0)) BK249.out hg (Kd.R_ne HO258.out BK249.out (by decide)))
   have n2_ := Aside0.mk (Kd.R_after (ok := (fun _ => True)) (Kd.R_mono HO255.out (fun _ hk => ⟨trivial, hk⟩)) hg hat)
   have n3_ := Aside0.mk (hb)
   have n4_ := Aside0.mk (ho)
   clear BK248
   clear BK249
   clear HO255
   clear HB
   clear HO258
   have BK248 := n0_
   have BK249 := n1_
   have HO255 := n2_
   have HB := n3_
   have HO261 := n4_
   clear n0_ n1_ n2_ n3_ n4_
   clear ho hb hg hat
   obtain ⟨Ao14, co14, eo14⟩ := Kd.R_slice HO261.out
   (first | subst eo14 | (injection eo14 with f1_ f2_ f3_; have f4_ := f1_.symm; have f5_ := f3_.symm; clear f1_ f2_ f3_; subst f4_; subst f5_))
   obtain ⟨Ao15, co15, eo15⟩ := Kd.R_slice HO255.out
   (first | subst eo15 | (injection eo15 with f1_ f2_ f3_; have f4_ := f1_.symm; have f5_ := f3_.symm; clear f1_ f2_ f3_; subst f4_; subst f5_))
   refine hK.out _ _ ⟨(blk_cell BK248.out 0).trans rfl, (blk_cell BK248.out 1).trans rfl, (blk_cell BK248.out 2).trans rfl⟩ (fun hHeld => ?_)
   clear hK K
   refine no 12 ?_
   refine pu 10 13 #[true, true, true, true, true, true, true, true, true, true, true, false] HT_ rfl rfl ?_
   refine one_ (i := 11) (N := none) #[true, true, true, true, true, true, true, true, true, true, true, true] rfl rfl (one_of HT_.out (by kernel_rfl)) (by decide) (fun K hK => ?_)
   have hs16 : w13.cell? ⟨gb249, 0, none⟩ = some (.bool false) := (blk_cell BK249.out 0).trans rfl
   have hfs16 := blk_frozen BK249.out 0
   have hns16_0 := NB248_249.out
   have hms16_0 := NB249_248.out
   have hs17 : w13.cell? ⟨gb249, 1, none⟩ = some (.slice none 0 0) := (blk_cell BK249.out 1).trans rfl
   have hfs17 := blk_frozen BK249.out 1
   have hns17_0 := NB248_249.out
   have hms17_0 := NB249_248.out
   have hs18 : w13.cell? ⟨gb249, 2, none⟩ = some (.slice none 0 0) := (blk_cell BK249.out 2).trans rfl
   have hfs18 := blk_frozen BK249.out 2
   have hns18_0 := NB248_249.out
   have hms18_0 := NB249_248.out
   refine skip_ (w1 := ?_) (by rfl) rfl ?_ ?_
   rotate_left
   ·go_simp
    rfl
   refine hK.out _ _ ⟨((cell_far (p := ⟨gb249, _, none⟩) NB248_249.out _).trans (((cell_far (p := ⟨gb249, _, none⟩) NB248_249.out _).trans (((cell_far (p := ⟨gb249, _, none⟩) NB248_249.out _).trans (hHeld.1)))))), ((cell_far (p := ⟨gb249, _, none⟩) NB248_249.out _).trans (((cell_far (p := ⟨gb249, _, none⟩) NB248_249.out _).trans (((cell_far (p := ⟨gb249, _, none⟩) NB248_249.out _).trans (hHeld.2.1)))))), ((cell_far (p := ⟨gb249, _, none⟩) NB248_249.out _).trans (((cell_far (p := ⟨gb249, _, none⟩) NB248_249.out _).trans (((cell_far (p := ⟨gb249, _, none⟩) NB248_249.out _).trans (hHeld.2.2))))))⟩ (fun hHeld => ?_)
   clear hK K
   refine done_ (done_of HT_.out (by kernel_rfl)) ?_
   try go_wp2
   refine bodyPost_ret (results_cell_row rfl _ _ gb249 26 #[.bool a0_0, .slice Ao15 y253.length co15, .slice Ao14 y259.length co14] (0, 0) _ rfl (by (with_reducible repeat (first | refine blk_drewN ?_ _ | refine blk_drew ?_ | refine blk_alloc ?_ _)); refine blk_put (cs := #[.bool a0_0, .slice Ao15 y253.length co15, .slice none 0 0]) ?_ 2 _ rfl; (with_reducible repeat (first | refine blk_drewN ?_ _ | refine blk_drew ?_ | refine blk_alloc ?_ _)); refine blk_put (cs := #[.bool a0_0, .slice none 0 0, .slice none 0 0]) ?_ 1 _ rfl; (with_reducible repeat (first | refine blk_drewN ?_ _ | refine blk_drew ?_ | refine blk_alloc ?_ _)); refine blk_put (cs := #[.bool false, .slice none 0 0, .slice none 0 0]) ?_ 0 _ rfl; (with_reducible repeat (first | refine blk_drewN ?_ _ | refine blk_drew ?_ | refine blk_alloc ?_ _)); exact BK249.out) Try.underlying26 rfl (by kernel_rfl)) rfl ?_
   exact ⟨_, _, by first | rfl | (simp [errW_none, errW_some] <;> rfl) | (simp [*, errW_none, errW_some] <;> rfl), by exact Kd.R_mono (Kd.R_far (p := ⟨gb249, 2, none⟩) (Kd.R_far (p := ⟨gb249, 1, none⟩) (Kd.R_far (p := ⟨gb249, 0, none⟩) (Kd.R_types HO255.out BK249.out (by decide)) (fun _ hk => hk.2) (.bool a0_0)) (fun _ hk => hk.2) (.slice Ao15 y253.length co15)) (fun _ hk => hk.2) (.slice Ao14 y259.length co14)) (fun _ hk => hk.1.2), by exact Kd.R_mono (Kd.R_far (p := ⟨gb249, 2, none⟩) (Kd.R_far (p := ⟨gb249, 1, none⟩) (Kd.R_far (p := ⟨gb249, 0, none⟩) (Kd.R_types HO261.out BK249.out (by decide)) (fun _ hk => hk.2) (.bool a0_0)) (fun _ hk => hk.2) (.slice Ao15 y253.length co15)) (fun _ hk => hk.2) (.slice Ao14 y259.length co14)) (fun _ hk => hk.1), bl⟩
  ·rw [if_neg c3] at H
   exact absurd H (by simp)
 ·rw [if_neg c2] at H
  exact absurd H (by simp)
end Go.Proofs.Ytchegijjjakmpaa.P

end
section

namespace Go.Proofs.Ytchegijjjakmpaa.P
open Go.RowKit Go.Proofs.YtchegijjjakmpaaW.PrintWords Go.Proofs.YtchegijjjakmpaaW.PrintLast Go.Proofs.YtchegijjjakmpaaW.PrintMore
attribute [local go_sem] max2_int min2_int max_two min_two max_three min_three max_four min_four
set_option linter.unusedVariables false
set_option linter.unusedSimpArgs false
set_option maxHeartbeats 8000000 in
set_option maxRecDepth 100000 in
theorem spec_l11None.calls  (r1 : Bool) (r2 : List Int) (r3 : List Int) (w : World) (h : spec_l11None.f  = some (r1, r2, r3)) :
  Calls Try.prog 21 #[] w fun e w' => ∃ v1_ v2_ : Value, e = .returned (.agg #[.bool r1, v1_, v2_]) ∧ Kd.R (Kd.int .i64) 3 w' w.heap.size (fun k_ => some k_ ≠ (v2_ : Value).ownBlock) v1_ r2 ∧ Kd.R (Kd.int .i64) 3 w' w.heap.size (fun k_ => some k_ ≠ (v1_ : Value).ownBlock) v2_ r3 ∧ Below w.heap.size w w' := by
 have hu26 := Try.underlying26
 have HB := Aside0.mk (Below.refl w.heap.size w)
 have H : (some (false, (([] : List Int)), (([] : List Int)))) = some (r1, r2, r3) := h
 clear h
 obtain ⟨y133, hy133⟩ : ∃ y_ : List Int, y_ = (([] : List Int)) := ⟨_, rfl⟩
 replace H : (some (false, y133, (([] : List Int)))) = some (r1, r2, r3) := by first | (rw [hy133]; with_reducible exact H) | (have H2_ := (Option.bind_some _ _).symm.trans H; rw [hy133]; with_reducible exact H2_) | (have H2_ := (Option.bind_some _ _).symm.trans H; with_reducible exact H2_) | with_reducible exact H | (rw [hy133]; exact H) | exact H
 have Ny133 := Aside0.mk hy133
 clear hy133
 obtain ⟨y136, hy136⟩ : ∃ y_ : List Int, y_ = (([] : List Int)) := ⟨_, rfl⟩
 replace H : (some (false, y133, y136)) = some (r1, r2, r3) := by first | (rw [hy136]; with_reducible exact H) | (have H2_ := (Option.bind_some _ _).symm.trans H; rw [hy136]; with_reducible exact H2_) | (have H2_ := (Option.bind_some _ _).symm.trans H; with_reducible exact H2_) | with_reducible exact H | (rw [hy136]; exact H) | exact H
 have Ny136 := Aside0.mk hy136
 clear hy136
 simp only [Option.some.injEq, Prod.mk.injEq] at H
 obtain ⟨rfl, rfl, rfl⟩ := H
 go_enter Try.func21, Try.ntmps21
 go_wp2_with (first | ((with_reducible refine gd 0 rfl ?_); refine bx 0 #[.bool false, .slice none 0 0, .slice none 0 0] 26 ?_; intro gb132 hg w1 hbox hb; have BK132 := Aside0.mk hbox; have GW132 := hz HB hg; have GE132 := hz HB hg; replace HB := hs HB hb; clear hb hbox hg) | ((with_reducible refine gd 1 rfl ?_); refine Kd.R_lit (Kd.int .i64) _ 3 ?hg (N := 1) ?hd (xs := ([] : List Int)) (inner := []) (ok := fun _ => True) (okp := fun _ => True) ?hr ?hp (fun _ hk => hk) trivial (Below.refl _ _) (Nat.le_refl _) (by simp) ?_; (case hd => rfl); (case hg => rfl); (case hr => first | (go_simp; done) | (go_simp; rfl)); (case hp => exact (Reps.none _ _)); intro v134 w2 ho3 hb hg_ hnew_; clear hg_ hnew_; (first | rw [← Ny133.out] at ho3 | (simp only [Int.reduceToNat] at ho3; rw [← Ny133.out] at ho3)); have HO135 := Aside0.mk (Kd.R_lower ho3 (below_size bl)); replace BK132 := kb BK132 hb; replace HB := hs HB hb; clear hb ho3) | ((with_reducible refine gd 2 rfl ?_); refine Kd.R_lit (Kd.int .i64) _ 3 ?hg (N := 2) ?hd (xs := ([] : List Int)) (inner := []) (ok := fun _ => True) (okp := fun _ => True) ?hr ?hp (fun _ hk => hk) trivial (Below.refl _ _) (Nat.le_refl _) (by simp) ?_; (case hd => rfl); (case hg => rfl); (case hr => first | (go_simp; done) | (go_simp; rfl)); (case hp => exact (Reps.none _ _)); intro v137 w4 ho5 hb hg_ hnew_; clear hg_ hnew_; (first | rw [← Ny136.out] at ho5 | (simp only [Int.reduceToNat] at ho5; rw [← Ny136.out] at ho5)); have HO138 := Aside0.mk (Kd.R_lower (Kd.R_new' ho5 (Kd.R_lt HO135.out)) (below_size bl)); replace HO135 := Aside0.mk (Kd.R_elder' HO135.out (Kd.R_base ho5) hb); replace BK132 := kb BK132 hb; replace HB := hs HB hb; clear hb ho5; obtain ⟨Ao6, co6, eo6⟩ := Kd.R_slice HO138.out; subst eo6; obtain ⟨Ao7, co7, eo7⟩ := Kd.R_slice HO135.out; subst eo7; obtain ⟨_,_,_,_,_,_⟩ := cf3 BK132))
 refine bodyPost_ret (results_cell_row rfl _ _ gb132 26 #[.bool false, .slice Ao7 y133.length co7, .slice Ao6 y136.length co6] (0, 0) _ rfl (by (with_reducible repeat (first | refine blk_drewN ?_ _ | refine blk_drew ?_ | refine blk_alloc ?_ _)); refine blk_put (cs := #[.bool false, .slice Ao7 y133.length co7, .slice none 0 0]) ?_ 2 _ rfl; (with_reducible repeat (first | refine blk_drewN ?_ _ | refine blk_drew ?_ | refine blk_alloc ?_ _)); refine blk_put (cs := #[.bool false, .slice none 0 0, .slice none 0 0]) ?_ 1 _ rfl; (with_reducible repeat (first | refine blk_drewN ?_ _ | refine blk_drew ?_ | refine blk_alloc ?_ _)); refine blk_put (cs := #[.bool false, .slice none 0 0, .slice none 0 0]) ?_ 0 _ rfl; (with_reducible repeat (first | refine blk_drewN ?_ _ | refine blk_drew ?_ | refine blk_alloc ?_ _)); exact BK132.out) Try.underlying26 rfl (by kernel_rfl)) rfl ?_
 exact ⟨_, _, by first | rfl | (simp [errW_none, errW_some] <;> rfl) | (simp [*, errW_none, errW_some] <;> rfl), by exact Kd.R_mono (Kd.R_far (p := ⟨gb132, 2, none⟩) (Kd.R_far (p := ⟨gb132, 1, none⟩) (Kd.R_far (p := ⟨gb132, 0, none⟩) (Kd.R_types HO135.out BK132.out (by decide)) (fun _ hk => hk.2) (.bool false)) (fun _ hk => hk.2) (.slice Ao7 y133.length co7)) (fun _ hk => hk.2) (.slice Ao6 y136.length co6)) (fun _ hk => hk.1.2), by exact Kd.R_mono (Kd.R_far (p := ⟨gb132, 2, none⟩) (Kd.R_far (p := ⟨gb132, 1, none⟩) (Kd.R_far (p := ⟨gb132, 0, none⟩) (Kd.R_types HO138.out BK132.out (by decide)) (fun _ hk => hk.2) (.bool false)) (fun _ hk => hk.2) (.slice Ao7 y133.length co7)) (fun _ hk => hk.2) (.slice Ao6 y136.length co6)) (fun _ hk => hk.1.2), bl⟩
end Go.Proofs.Ytchegijjjakmpaa.P

end
section

namespace Go.Proofs.Ytchegijjjakmpaa.P
open Go.RowKit Go.Proofs.YtchegijjjakmpaaW.PrintWords Go.Proofs.YtchegijjjakmpaaW.PrintLast Go.Proofs.YtchegijjjakmpaaW.PrintMore
attribute [local go_sem] max2_int min2_int max_two min_two max_three min_three max_four min_four
set_option linter.unusedVariables false
set_option linter.unusedSimpArgs false
set_option maxHeartbeats 8000000 in
set_option maxRecDepth 100000 in
theorem spec_l2Ref.calls (a0 : Int) (r : Bool) (w : World) (h : spec_l2Ref.f a0 = some r) :
  Calls Try.prog 31 #[.int .i64 a0] w fun e w' => e = .returned (.bool r) ∧ Drawn0 w w' := by
 have H : (some (decide (a0 ≥ 2))) = some r := h
 clear h
 obtain rfl := Option.some.inj H; clear H
 go_enter Try.func31, Try.ntmps31
 go_wp2
 go_ret
 exact ⟨by first | rfl | (simp; done) | (simp [*]; done), by repeat (first | exact Drawn0.refl _ | apply Drawn0.step)⟩
end Go.Proofs.Ytchegijjjakmpaa.P

end
section

namespace Go.Proofs.Ytchegijjjakmpaa.P
open Go.RowKit Go.Proofs.YtchegijjjakmpaaW.PrintWords Go.Proofs.YtchegijjjakmpaaW.PrintLast Go.Proofs.YtchegijjjakmpaaW.PrintMore
attribute [local go_sem] max2_int min2_int max_two min_two max_three min_three max_four min_four
set_option linter.unusedVariables false
set_option linter.unusedSimpArgs false
set_option maxHeartbeats 8000000 in
set_option maxRecDepth 100000 in
theorem spec_l2Up.calls (k : Nat) (A0 : Option Addr) (c0 : Nat) (l0 : List (S48)) (a1 : Int) (a2 : Int) (r : Bool) (w : World) (hr0 : Kd.C k48 w A0 l0.length l0) (hc0 : l0.length ≤ c0) (h : spec_l2Up.f k l0 a1 a2 = some r) :
  Calls Try.prog 36 #[.slice A0 l0.length c0, .int .i64 a1, .int .i64 a2] w fun e w' => e = .returned (.bool r) ∧ Drawn0 w w' := by
 have HR0 := Aside0.mk hr0
 have HC0 := Aside0.mk hc0
 clear hr0 hc0
 have H : (spec_l2Up.l0 k l0 a1 a2) = some r := h
 clear h
 have H' := Aside0.mk H
 clear H
 go_enter Try.func36, Try.ntmps36
 go_wp2
 go_loopg [1] k (fun kq v1 w' => ∃ (x1_1 : Int), v1 = .int .i64 x1_1 ∧ Aside0 (spec_l2Up.l0 kq l0 x1_1 a2 = some r) ∧ Aside0 (kq ≤ k) ∧ Drawn0 w w')
 case atStart => exact ⟨(a1), (by first | rfl | (simp; done) | (simp [*]; done)), H', ⟨Nat.le_refl _⟩, by repeat (first | exact Drawn0.refl _ | apply Drawn0.step)⟩
 case round =>
  clear H'
  obtain ⟨x1_1, rfl, HA, HK1, ⟨m1, rfl⟩⟩ := hrel
  cases gk with
  | zero => exact absurd HA.out (by simp [spec_l2Up.l0])
  | succ k1 =>
   have H := HA.out
   clear HA
   simp only [spec_l2Up.l0] at H
   by_cases c4 : x1_1 > a2
   ·rw [if_pos c4] at H
    have c4b0 : decide (a2 < x1_1) = true := decide_eq_true c4
    clear c4
    by_cases c5 : 0 ≤ x1_1
    ·rw [if_pos c5] at H
     have c5b0 : decide (0 ≤ x1_1) = true := decide_eq_true c5
     clear c5
     by_cases c6 : x1_1 < (l0.length : Int)
     ·rw [if_pos c6] at H
      have c6b0 : decide (x1_1 < (l0.length : Int)) = true := decide_eq_true c6
      clear c6
      have H' := Aside0.mk H
      clear H
      have p262 : 0 ≤ (x1_1 : Int) := od
      have q262 : x1_1 < (l0.length : Int) := od
      obtain ⟨ad262, A262_1, c262_1, e262, hx262_0, hx262_1, hl262_1, hi262_1⟩ := at_T48 HR0.out x1_1 p262 q262
      cases e262
      have HR262_1 := Aside0.mk hi262_1
      have HC262_1 := Aside0.mk hl262_1
      clear hi262_1 hl262_1
      replace p262 := eq_true p262
      replace q262 := eq_true q262
      go_wp2
      go_roundg k1
      case measure => have := HK1.out; omega
      case rel => exact ⟨((rd_T48 l0 x1_1).f0), (by first | rfl | (simp; done) | (simp [*]; done)), H', ⟨by have := HK1.out; omega⟩, by repeat (first | exact Drawn0.refl _ | apply Drawn0.step)⟩
     ·rw [if_neg c6] at H
      exact absurd H (by simp)
    ·rw [if_neg c5] at H
     exact absurd H (by simp)
   ·rw [if_neg c4] at H
    have c4b0 : decide (a2 < x1_1) = false := decide_eq_false c4
    clear c4
    obtain rfl := Option.some.inj H; clear H
    go_wp2
    go_ret
    exact ⟨by first | rfl | (simp; done) | (simp [*]; done), by repeat (first | exact Drawn0.refl _ | apply Drawn0.step)⟩
end Go.Proofs.Ytchegijjjakmpaa.P

end
