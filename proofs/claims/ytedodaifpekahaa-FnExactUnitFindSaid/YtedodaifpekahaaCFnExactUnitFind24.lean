/- A part of the claim FnExactUnitFind: texts of this session and texts that its program printed out of the translation, joined. -/
import Derived.Test.YtedodaifpekahaaCFnExactUnitFind21
import Derived.Test.YtedodaifpekahaaCFnExactUnitFind22
import Derived.Test.YtedodaifpekahaaCFnExactUnitFind23
import Derived.Test.YtedodaifpekahaaCFnExactUnitFind0
import Derived.Test.YtedodaifpekahaaCFnExactUnitFind1
import Derived.Test.YtedodaifpekahaaCFnExactUnitFind2
import Derived.Test.YtedodaifpekahaaCFnExactUnitFind3
import Derived.Test.YtedodaifpekahaaCFnExactUnitFind4
import Derived.Test.YtedodaifpekahaaCFnExactUnitFind5
import Derived.Test.YtedodaifpekahaaCFnExactUnitFind6
import Derived.Test.YtedodaifpekahaaCFnExactUnitFind7
import Derived.Test.YtedodaifpekahaaCFnExactUnitFind8
import Derived.Test.YtedodaifpekahaaCFnExactUnitFind9
import Derived.Test.YtedodaifpekahaaCFnExactUnitFind10
import Derived.Test.YtedodaifpekahaaCFnExactUnitFind11
import Derived.Test.YtedodaifpekahaaCFnExactUnitFind12
import Derived.Test.YtedodaifpekahaaCFnExactUnitFind13
import Derived.Test.YtedodaifpekahaaCFnExactUnitFind14
import Derived.Test.YtedodaifpekahaaCFnExactUnitFind15
import Derived.Test.YtedodaifpekahaaCFnExactUnitFind16
import Derived.Test.YtedodaifpekahaaCFnExactUnitFind17
import Derived.Test.YtedodaifpekahaaCFnExactUnitFind18
import Derived.Test.YtedodaifpekahaaCFnExactUnitFind19
import Derived.Test.YtedodaifpekahaaCFnExactUnitFind20
section

namespace Go.Proofs.Ytedodaifpekahaa.P
open Go.RowKit Go.Proofs.YtedodaifpekahaaW.PrintWords Go.Proofs.YtedodaifpekahaaW.PrintLast Go.Proofs.YtedodaifpekahaaW.PrintMore
attribute [local go_sem] max2_int min2_int max_two min_two max_three min_three max_four min_four
set_option linter.unusedVariables false
set_option linter.unusedSimpArgs false
def spec_l3Ins.T32 : Bool × List (List Nat × List Nat) := (true, [([], []), ([0], [0]), ([1], [1]), ([2, 1], [1, 2]), ([1], [1]), ([4, 1], [1, 4]), ([1], [1]), ([6, 1], [1, 6]), ([5, 7, 1, 1], [1, 5, 7]), ([8, 1], [1, 8]), ([9, 1], [1, 9]), ([3, 10, 8, 1], [1, 3, 10]), ([1, 11], [1, 11]), ([12, 11, 0, 1, 2, 3, 4, 5, 6, 7, 8, 9, 10, 11, 12], [12])])
def spec_l3Ins.B32 : List Nat := [0, 1, 3, 7, 3, 19, 3, 67, 243, 499, 1011, 2047, 4095, 8191]
theorem spec_l3Ins.tab32 : rtab .any (opsOf Try.f35 32) = spec_l3Ins.T32 := by kernel_rfl
theorem spec_l3Ins.bits32 : waitsOk spec_l3Ins.T32.2 spec_l3Ins.B32 = true := by kernel_rfl
set_option maxHeartbeats 8000000 in
set_option maxRecDepth 100000 in
theorem spec_l3Ins.calls (k : Nat) (A0_0 : Option Addr) (c0_0 : Nat) (l0_0 : List (S76)) (A0_1 : Option Addr) (c0_1 : Nat) (l0_1 : List (S46)) (a1_0 : Int) (a1_1 : Int) (A1_2 : Option Addr) (c1_2 : Nat) (l1_2 : List Int) (a1_3 : Int) (a1_4 : Int) (A1_5 : Option Addr) (c1_5 : Nat) (l1_5 : List (S67)) (A1_6 : Option Addr) (c1_6 : Nat) (l1_6 : List (S70)) (A1_7 : Option Addr) (c1_7 : Nat) (l1_7 : List (S73)) (a2_0 : Int) (a2_1 : Int) (a2_2 : Int) (r : Bool) (w : World) (hr0_0 : Kd.C k76 w A0_0 l0_0.length l0_0) (hc0_0 : l0_0.length ≤ c0_0) (hr0_1 : Kd.C k46 w A0_1 l0_1.length l0_1) (hc0_1 : l0_1.length ≤ c0_1) (hr1_2 : Kd.C (Kd.int .i64) w A1_2 l1_2.length l1_2) (hc1_2 : l1_2.length ≤ c1_2) (hr1_5 : Kd.C k67 w A1_5 l1_5.length l1_5) (hc1_5 : l1_5.length ≤ c1_5) (hr1_6 : Kd.C k70 w A1_6 l1_6.length l1_6) (hc1_6 : l1_6.length ≤ c1_6) (hr1_7 : Kd.C k73 w A1_7 l1_7.length l1_7) (hc1_7 : l1_7.length ≤ c1_7) (h : spec_l3Ins.f k l0_0 l0_1 a1_0 a1_1 l1_2 a1_3 a1_4 l1_5 l1_6 l1_7 a2_0 a2_1 a2_2 = some r) :
  Calls Try.prog 35 #[.agg #[.slice A0_0 l0_0.length c0_0, .slice A0_1 l0_1.length c0_1], .agg #[.int .i64 a1_0, .int .i64 a1_1, .slice A1_2 l1_2.length c1_2, .int .i64 a1_3, .int .i64 a1_4, .slice A1_5 l1_5.length c1_5, .slice A1_6 l1_6.length c1_6, .slice A1_7 l1_7.length c1_7], .agg #[.int .i64 a2_0, .int .i64 a2_1, .int .i64 a2_2]] w fun e w' => e = .returned (.bool r) ∧ Below w.heap.size w w' := by
 have hu31 := Try.underlying31
 have hu46 := Try.underlying46
 have hu67 := Try.underlying67
 have HR0_0 := Aside0.mk hr0_0
 have HC0_0 := Aside0.mk hc0_0
 clear hr0_0 hc0_0
 have HR0_1 := Aside0.mk hr0_1
 have HC0_1 := Aside0.mk hc0_1
 clear hr0_1 hc0_1
 have HR1_2 := Aside0.mk hr1_2
 have HC1_2 := Aside0.mk hc1_2
 clear hr1_2 hc1_2
 have HR1_5 := Aside0.mk hr1_5
 have HC1_5 := Aside0.mk hc1_5
 clear hr1_5 hc1_5
 have HR1_6 := Aside0.mk hr1_6
 have HC1_6 := Aside0.mk hc1_6
 clear hr1_6 hc1_6
 have HR1_7 := Aside0.mk hr1_7
 have HC1_7 := Aside0.mk hc1_7
 clear hr1_7 hc1_7
 have HB := Aside0.mk (Below.refl w.heap.size w)
 have H : ((spec_l6In.f a2_1 0 (wrap64 ((l0_0.length : Int) - 1))).bind fun t152 => (if a2_0 = 1 then ((spec_l1Word.f a2_1).bind fun t153 => (if t153 = true then (some (a2_2 == 0)) else (some false))) else (if a2_0 = 2 then (spec_l3Ins.j0 k t152 a2_0 (a2_0 == 2) l0_0 l0_1 a1_0 a1_1 l1_2 a1_3 a1_4 l1_5 l1_6 l1_7 a2_0 a2_1 a2_2) else (if a2_0 = 5 then (spec_l3Ins.j0 k t152 a2_0 (a2_0 == 5) l0_0 l0_1 a1_0 a1_1 l1_2 a1_3 a1_4 l1_5 l1_6 l1_7 a2_0 a2_1 a2_2) else (if a2_0 = 6 then (spec_l3Ins.j0 k t152 a2_0 (a2_0 == 6) l0_0 l0_1 a1_0 a1_1 l1_2 a1_3 a1_4 l1_5 l1_6 l1_7 a2_0 a2_1 a2_2) else (if a2_0 = 14 then (spec_l3Ins.j0 k t152 a2_0 (a2_0 == 14) l0_0 l0_1 a1_0 a1_1 l1_2 a1_3 a1_4 l1_5 l1_6 l1_7 a2_0 a2_1 a2_2) else (if a2_0 = 22 then (spec_l3Ins.j0 k t152 a2_0 (a2_0 == 22) l0_0 l0_1 a1_0 a1_1 l1_2 a1_3 a1_4 l1_5 l1_6 l1_7 a2_0 a2_1 a2_2) else (if a2_0 = 23 then (spec_l3Ins.j0 k t152 a2_0 (a2_0 == 23) l0_0 l0_1 a1_0 a1_1 l1_2 a1_3 a1_4 l1_5 l1_6 l1_7 a2_0 a2_1 a2_2) else (spec_l3Ins.j0 k t152 a2_0 (a2_0 == 24) l0_0 l0_1 a1_0 a1_1 l1_2 a1_3 a1_4 l1_5 l1_6 l1_7 a2_0 a2_1 a2_2))))))))) = some r := h
 clear h
 obtain ⟨t152, A4, H⟩ := ob H
 by_cases c5 : a2_0 = 1
 ·rw [if_pos c5] at H
  have c5b0 := beq_iff_eq.mpr c5
  have c5b1 := bne_eq_false_iff_eq.mpr c5
  clear c5
  obtain ⟨t153, A6, H⟩ := ob H
  by_cases c7 : t153 = true
  ·subst c7
   replace H := it H
   obtain rfl := Option.some.inj H; clear H
   go_enter Try.func35, Try.ntmps35
   go_wp2_with (first | ((with_reducible refine gc 15 rfl ?_); refine gl (some 14) Try.func15 #[.int .i64 a2_1, .int .i64 0, .int .i64 (wrap64 ((l0_0.length : Int) - 1))] rfl ?_; (with_reducible refine (spec_l6In.calls a2_1 0 (wrap64 ((l0_0.length : Int) - 1)) t152 _ A4.out).mono ?_); rintro e w' ⟨rfl, ⟨nd, rfl⟩⟩; refine ⟨_, rfl, ?_⟩) | ((with_reducible refine gc 55 rfl ?_); refine gl (some 21) Try.func55 #[.int .i64 a2_1] rfl ?_; (with_reducible refine (spec_l1Word.calls a2_1 true _ A6.out).mono ?_); rintro e w' ⟨rfl, ⟨nd, rfl⟩⟩; refine ⟨_, rfl, ?_⟩))
   go_ret
   exact fin
  ·replace c7 := Bool.eq_false_iff.mpr c7
   subst c7
   replace H := ie H
   obtain rfl := Option.some.inj H; clear H
   go_enter Try.func35, Try.ntmps35
   go_wp2_with (first | ((with_reducible refine gc 15 rfl ?_); refine gl (some 14) Try.func15 #[.int .i64 a2_1, .int .i64 0, .int .i64 (wrap64 ((l0_0.length : Int) - 1))] rfl ?_; (with_reducible refine (spec_l6In.calls a2_1 0 (wrap64 ((l0_0.length : Int) - 1)) t152 _ A4.out).mono ?_); rintro e w' ⟨rfl, ⟨nd, rfl⟩⟩; refine ⟨_, rfl, ?_⟩) | ((with_reducible refine gc 55 rfl ?_); refine gl (some 21) Try.func55 #[.int .i64 a2_1] rfl ?_; (with_reducible refine (spec_l1Word.calls a2_1 false _ A6.out).mono ?_); rintro e w' ⟨rfl, ⟨nd, rfl⟩⟩; refine ⟨_, rfl, ?_⟩))
   go_ret
   exact fin
 ·rw [if_neg c5] at H
  have c5b0 := beq_eq_false_iff_ne.mpr c5
  have c5b1 := bne_iff_ne.mpr c5
  have HC24 := Aside0.mk H
  clear H
  go_enter Try.func35, Try.ntmps35
  go_upto_if 27 with (first | ((with_reducible refine gd 3 rfl ?_); (try (refine gate_guard (by rfl) ?_; dsimp only)); refine bx 3 #[.slice A0_0 l0_0.length c0_0, .slice A0_1 l0_1.length c0_1] 31 ?_; intro gb149 hg w25 hbox hb; have BK149 := Aside0.mk hbox; have GW149 := hz HB hg; have GE149 := hz HB hg; replace HB := hs HB hb; clear hb hbox hg) | ((with_reducible refine gd 4 rfl ?_); (try (refine gate_guard (by rfl) ?_; dsimp only)); refine bx 4 #[.int .i64 a1_0, .int .i64 a1_1, .slice A1_2 l1_2.length c1_2, .int .i64 a1_3, .int .i64 a1_4, .slice A1_5 l1_5.length c1_5, .slice A1_6 l1_6.length c1_6, .slice A1_7 l1_7.length c1_7] 46 ?_; intro gb150 hg w26 hbox hb; have BK150 := Aside0.mk hbox; have GW150 := hz HB hg; have GE150 := hz HB hg; have NB149_150 := nl BK149 hg; have NB150_149 := ng BK149 hg; replace BK149 := kb BK149 hb; replace HB := hs HB hb; clear hb hbox hg) | ((with_reducible refine gd 5 rfl ?_); (try (refine gate_guard (by rfl) ?_; dsimp only)); refine bx 5 #[.int .i64 a2_0, .int .i64 a2_1, .int .i64 a2_2] 67 ?_; intro gb151 hg w27 hbox hb; have BK151 := Aside0.mk hbox; have GW151 := hz HB hg; have GE151 := hz HB hg; have NB149_151 := nl BK149 hg; have NB151_149 := ng BK149 hg; have NB150_151 := nl BK150 hg; have NB151_150 := ng BK150 hg; replace BK149 := kb BK149 hb; replace BK150 := kb BK150 hb; replace HB := hs HB hb; clear hb hbox hg; have hnb28 := NB151_149.out; have hnc28 := NB149_151.out; have hnb29 := NB151_150.out; have hnc29 := NB150_151.out; obtain ⟨_,_,_,_,_,_⟩ := cf3 BK151; have hnb31 := NB149_150.out; have hnc31 := NB150_149.out; obtain ⟨_,_,_,_⟩ := cf2 BK149) | ((with_reducible refine gc 15 rfl ?_); refine gl (some 14) Try.func15 #[.int .i64 a2_1, .int .i64 0, .int .i64 (wrap64 ((l0_0.length : Int) - 1))] rfl ?_; (with_reducible refine (spec_l6In.calls a2_1 0 (wrap64 ((l0_0.length : Int) - 1)) t152 _ A4.out).mono ?_); rintro e w' ⟨rfl, ⟨nd, rfl⟩⟩; refine ⟨_, rfl, ?_⟩))
  (try simp only [Act.put, List.setIfInBounds_toArray, List.set_cons_zero, List.set_cons_succ])
  go_cut [27] (fun v27 wc => ∃ (kq : Nat) (x27_23 : Bool), v27 = .bool x27_23 ∧ Aside0 (spec_l3Ins.j0 kq t152 a2_0 x27_23 l0_0 l0_1 a1_0 a1_1 l1_2 a1_3 a1_4 l1_5 l1_6 l1_7 a2_0 a2_1 a2_2 = some r) ∧ Aside0 (kq ≤ k) ∧ Aside0 (wc.heap[gb149]? = some (.cells #[(.slice A0_0 l0_0.length c0_0), (.slice A0_1 l0_1.length c0_1)] 31 (0, 0))) ∧ Aside0 (wc.heap[gb150]? = some (.cells #[.int .i64 a1_0, .int .i64 a1_1, (.slice A1_2 l1_2.length c1_2), .int .i64 a1_3, .int .i64 a1_4, (.slice A1_5 l1_5.length c1_5), (.slice A1_6 l1_6.length c1_6), (.slice A1_7 l1_7.length c1_7)] 46 (0, 0))) ∧ Aside0 (wc.heap[gb151]? = some (.cells #[.int .i64 a2_0, .int .i64 a2_1, .int .i64 a2_2] 67 (0, 0))) ∧ Aside0 (Below w.heap.size w wc))
  case first =>
   have H := HC24.out
   clear HC24
   by_cases c33 : a2_0 = 2
   ·rw [if_pos c33] at H
    have c33b0 := beq_iff_eq.mpr c33
    have c33b1 := bne_eq_false_iff_eq.mpr c33
    clear c33
    (first | rw [c33b0] | (simp only [i64_w, i32_w]; rw [c33b0]) | skip)
    have H' := Aside0.mk H
    clear H
    go_wp2
    go_meet
    case rel => exact ⟨_, ((a2_0 == 2)), (by first | rfl | (simp; done) | (simp [*]; done)), H', ⟨by first | omega | exact Nat.le_refl _⟩, kk BK149, kk BK150, kk BK151, ⟨bl⟩⟩
   ·rw [if_neg c33] at H
    have c33b0 := beq_eq_false_iff_ne.mpr c33
    have c33b1 := bne_iff_ne.mpr c33
    (first | rw [c33b0] | (simp only [i64_w, i32_w]; rw [c33b0]) | skip)
    by_cases c34 : a2_0 = 5
    ·rw [if_pos c34] at H
     have c34b0 := beq_iff_eq.mpr c34
     have c34b1 := bne_eq_false_iff_eq.mpr c34
     clear c34
     have H' := Aside0.mk H
     clear H
     go_wp2
     go_meet
     case rel => exact ⟨_, ((a2_0 == 5)), (by first | rfl | (simp; done) | (simp [*]; done)), H', ⟨by first | omega | exact Nat.le_refl _⟩, kk BK149, kk BK150, kk BK151, ⟨bl⟩⟩
    ·rw [if_neg c34] at H
     have c34b0 := beq_eq_false_iff_ne.mpr c34
     have c34b1 := bne_iff_ne.mpr c34
     by_cases c35 : a2_0 = 6
     ·rw [if_pos c35] at H
      have c35b0 := beq_iff_eq.mpr c35
      have c35b1 := bne_eq_false_iff_eq.mpr c35
      clear c35
      have H' := Aside0.mk H
      clear H
      go_wp2
      go_meet
      case rel => exact ⟨_, ((a2_0 == 6)), (by first | rfl | (simp; done) | (simp [*]; done)), H', ⟨by first | omega | exact Nat.le_refl _⟩, kk BK149, kk BK150, kk BK151, ⟨bl⟩⟩
     ·rw [if_neg c35] at H
      have c35b0 := beq_eq_false_iff_ne.mpr c35
      have c35b1 := bne_iff_ne.mpr c35
      by_cases c36 : a2_0 = 14
      ·rw [if_pos c36] at H
       have c36b0 := beq_iff_eq.mpr c36
       have c36b1 := bne_eq_false_iff_eq.mpr c36
       clear c36
       have H' := Aside0.mk H
       clear H
       go_wp2
       go_meet
       case rel => exact ⟨_, ((a2_0 == 14)), (by first | rfl | (simp; done) | (simp [*]; done)), H', ⟨by first | omega | exact Nat.le_refl _⟩, kk BK149, kk BK150, kk BK151, ⟨bl⟩⟩
      ·rw [if_neg c36] at H
       have c36b0 := beq_eq_false_iff_ne.mpr c36
       have c36b1 := bne_iff_ne.mpr c36
       by_cases c37 : a2_0 = 22
       ·rw [if_pos c37] at H
        have c37b0 := beq_iff_eq.mpr c37
        have c37b1 := bne_eq_false_iff_eq.mpr c37
        clear c37
        have H' := Aside0.mk H
        clear H
        go_wp2
        go_meet
        case rel => exact ⟨_, ((a2_0 == 22)), (by first | rfl | (simp; done) | (simp [*]; done)), H', ⟨by first | omega | exact Nat.le_refl _⟩, kk BK149, kk BK150, kk BK151, ⟨bl⟩⟩
       ·rw [if_neg c37] at H
        have c37b0 := beq_eq_false_iff_ne.mpr c37
        have c37b1 := bne_iff_ne.mpr c37
        by_cases c38 : a2_0 = 23
        ·rw [if_pos c38] at H
         have c38b0 := beq_iff_eq.mpr c38
         have c38b1 := bne_eq_false_iff_eq.mpr c38
         clear c38
         have H' := Aside0.mk H
         clear H
         go_wp2
         go_meet
         case rel => exact ⟨_, ((a2_0 == 23)), (by first | rfl | (simp; done) | (simp [*]; done)), H', ⟨by first | omega | exact Nat.le_refl _⟩, kk BK149, kk BK150, kk BK151, ⟨bl⟩⟩
        ·rw [if_neg c38] at H
         have c38b0 := beq_eq_false_iff_ne.mpr c38
         have c38b1 := bne_iff_ne.mpr c38
         have H' := Aside0.mk H
         clear H
         go_wp2
         go_meet
         case rel => exact ⟨_, ((a2_0 == 24)), (by first | rfl | (simp; done) | (simp [*]; done)), H', ⟨by first | omega | exact Nat.le_refl _⟩, kk BK149, kk BK150, kk BK151, ⟨bl⟩⟩
  case rest =>
   clear HC24
   obtain ⟨kq, x27_23, rfl, HA, HJ23, BK149, BK150, BK151, HB⟩ := hcut
   cases kq with
   | zero => exact absurd HA.out (by simp [spec_l3Ins.j0])
   | succ kj23 =>
    have H := HA.out
    clear HA
    simp only [spec_l3Ins.j0] at H
    by_cases c39 : x27_23 = true
    ·subst c39
     replace H := it H
     by_cases c40 : a2_1 = 0
     ·rw [if_pos c40] at H
      have c40b0 := beq_iff_eq.mpr c40
      have c40b1 := bne_eq_false_iff_eq.mpr c40
      clear c40
      obtain rfl := Option.some.inj H; clear H
      have hnb41 := NB151_149.out
      have hnc41 := NB149_151.out
      have hnb42 := NB151_150.out
      have hnc42 := NB150_151.out
      obtain ⟨_,_,_,_,_,_⟩ := cf3 BK151
      go_wp2
      go_ret
      exact fin
     ·rw [if_neg c40] at H
      have c40b0 := beq_eq_false_iff_ne.mpr c40
      have c40b1 := bne_iff_ne.mpr c40
      obtain rfl := Option.some.inj H; clear H
      have hnb44 := NB151_149.out
      have hnc44 := NB149_151.out
      have hnb45 := NB151_150.out
      have hnc45 := NB150_151.out
      obtain ⟨_,_,_,_,_,_⟩ := cf3 BK151
      go_wp2
      go_ret
      exact fin
    ·replace c39 := Bool.eq_false_iff.mpr c39
     subst c39
     replace H := ie H
     have HC47 := Aside0.mk H
     clear H
     go_upto_if 43 with (fail)
     go_cut [43] (fun v43 wc => ∃ (kq : Nat) (x43_46 : Bool), v43 = .bool x43_46 ∧ Aside0 (spec_l3Ins.j1 kq t152 a2_0 x43_46 l0_0 l0_1 a1_0 a1_1 l1_2 a1_3 a1_4 l1_5 l1_6 l1_7 a2_0 a2_1 a2_2 = some r) ∧ Aside0 (kq ≤ kj23) ∧ Aside0 (wc.heap[gb149]? = some (.cells #[(.slice A0_0 l0_0.length c0_0), (.slice A0_1 l0_1.length c0_1)] 31 (0, 0))) ∧ Aside0 (wc.heap[gb150]? = some (.cells #[.int .i64 a1_0, .int .i64 a1_1, (.slice A1_2 l1_2.length c1_2), .int .i64 a1_3, .int .i64 a1_4, (.slice A1_5 l1_5.length c1_5), (.slice A1_6 l1_6.length c1_6), (.slice A1_7 l1_7.length c1_7)] 46 (0, 0))) ∧ Aside0 (wc.heap[gb151]? = some (.cells #[.int .i64 a2_0, .int .i64 a2_1, .int .i64 a2_2] 67 (0, 0))) ∧ Aside0 (Below w.heap.size w wc))
     case first =>
      have H := HC47.out
      clear HC47
      by_cases c48 : a2_0 = 3
      ·rw [if_pos c48] at H
       have c48b0 := beq_iff_eq.mpr c48
       have c48b1 := bne_eq_false_iff_eq.mpr c48
       clear c48
       (first | rw [c48b0] | (simp only [i64_w, i32_w]; rw [c48b0]) | skip)
       have H' := Aside0.mk H
       clear H
       go_wp2
       go_meet
       case rel => exact ⟨_, ((a2_0 == 3)), (by first | rfl | (simp; done) | (simp [*]; done)), H', ⟨by have := HJ23.out; first | omega | exact Nat.le_refl _⟩, kk BK149, kk BK150, kk BK151, ⟨bl⟩⟩
      ·rw [if_neg c48] at H
       have c48b0 := beq_eq_false_iff_ne.mpr c48
       have c48b1 := bne_iff_ne.mpr c48
       (first | rw [c48b0] | (simp only [i64_w, i32_w]; rw [c48b0]) | skip)
       have H' := Aside0.mk H
       clear H
       go_wp2
       go_meet
       case rel => exact ⟨_, ((a2_0 == 4)), (by first | rfl | (simp; done) | (simp [*]; done)), H', ⟨by have := HJ23.out; first | omega | exact Nat.le_refl _⟩, kk BK149, kk BK150, kk BK151, ⟨bl⟩⟩
     case rest =>
      clear HC47
      obtain ⟨kq, x43_46, rfl, HA, HJ46, BK149, BK150, BK151, HB⟩ := hcut
      cases kq with
      | zero => exact absurd HA.out (by simp [spec_l3Ins.j1])
      | succ kj46 =>
       have H := HA.out
       clear HA
       simp only [spec_l3Ins.j1] at H
       by_cases c49 : x43_46 = true
       ·subst c49
        replace H := it H
        obtain ⟨t154, A50, H⟩ := ob H
        by_cases c51 : t154 = true
        ·subst c51
         replace H := it H
         obtain rfl := Option.some.inj H; clear H
         have hnb52 := NB151_149.out
         have hnc52 := NB149_151.out
         have hnb53 := NB151_150.out
         have hnc53 := NB150_151.out
         obtain ⟨_,_,_,_,_,_⟩ := cf3 BK151
         have hnb55 := NB150_149.out
         have hnc55 := NB149_150.out
         obtain ⟨_,_,_,_,_,_,_,_,_,_,_,_,_,_,_,_⟩ := cf8 BK150
         go_wp2_with (first | ((with_reducible refine gc 15 rfl ?_); refine gl (some 51) Try.func15 #[.int .i64 a2_1, .int .i64 0, .int .i64 (wrap64 (a1_4 - 1))] rfl ?_; (with_reducible refine (spec_l6In.calls a2_1 0 (wrap64 (a1_4 - 1)) true _ A50.out).mono ?_); rintro e w' ⟨rfl, ⟨nd, rfl⟩⟩; refine ⟨_, rfl, ?_⟩))
         go_ret
         exact fin
        ·replace c51 := Bool.eq_false_iff.mpr c51
         subst c51
         replace H := ie H
         obtain rfl := Option.some.inj H; clear H
         have hnb57 := NB151_149.out
         have hnc57 := NB149_151.out
         have hnb58 := NB151_150.out
         have hnc58 := NB150_151.out
         obtain ⟨_,_,_,_,_,_⟩ := cf3 BK151
         have hnb60 := NB150_149.out
         have hnc60 := NB149_150.out
         obtain ⟨_,_,_,_,_,_,_,_,_,_,_,_,_,_,_,_⟩ := cf8 BK150
         go_wp2_with (first | ((with_reducible refine gc 15 rfl ?_); refine gl (some 51) Try.func15 #[.int .i64 a2_1, .int .i64 0, .int .i64 (wrap64 (a1_4 - 1))] rfl ?_; (with_reducible refine (spec_l6In.calls a2_1 0 (wrap64 (a1_4 - 1)) false _ A50.out).mono ?_); rintro e w' ⟨rfl, ⟨nd, rfl⟩⟩; refine ⟨_, rfl, ?_⟩))
         go_ret
         exact fin
       ·replace c49 := Bool.eq_false_iff.mpr c49
        subst c49
        replace H := ie H
        by_cases c62 : a2_0 = 7
        ·rw [if_pos c62] at H
         have c62b0 := beq_iff_eq.mpr c62
         have c62b1 := bne_eq_false_iff_eq.mpr c62
         clear c62
         obtain ⟨t155, A63, H⟩ := ob H
         by_cases c64 : t155 = true
         ·subst c64
          replace H := it H
          obtain rfl := Option.some.inj H; clear H
          have hnb65 := NB151_149.out
          have hnc65 := NB149_151.out
          have hnb66 := NB151_150.out
          have hnc66 := NB150_151.out
          obtain ⟨_,_,_,_,_,_⟩ := cf3 BK151
          go_wp2_with (first | ((with_reducible refine gc 15 rfl ?_); refine gl (some 61) Try.func15 #[.int .i64 a2_1, .int .i64 1, .int .i64 4] rfl ?_; (with_reducible refine (spec_l6In.calls a2_1 1 4 true _ A63.out).mono ?_); rintro e w' ⟨rfl, ⟨nd, rfl⟩⟩; refine ⟨_, rfl, ?_⟩))
          go_ret
          exact fin
         ·replace c64 := Bool.eq_false_iff.mpr c64
          subst c64
          replace H := ie H
          obtain rfl := Option.some.inj H; clear H
          have hnb68 := NB151_149.out
          have hnc68 := NB149_151.out
          have hnb69 := NB151_150.out
          have hnc69 := NB150_151.out
          obtain ⟨_,_,_,_,_,_⟩ := cf3 BK151
          go_wp2_with (first | ((with_reducible refine gc 15 rfl ?_); refine gl (some 61) Try.func15 #[.int .i64 a2_1, .int .i64 1, .int .i64 4] rfl ?_; (with_reducible refine (spec_l6In.calls a2_1 1 4 false _ A63.out).mono ?_); rintro e w' ⟨rfl, ⟨nd, rfl⟩⟩; refine ⟨_, rfl, ?_⟩))
          go_ret
          exact fin
        ·rw [if_neg c62] at H
         have c62b0 := beq_eq_false_iff_ne.mpr c62
         have c62b1 := bne_iff_ne.mpr c62
         have HC71 := Aside0.mk H
         clear H
         go_upto_if 67 with (fail)
         go_cut [67] (fun v67 wc => ∃ (kq : Nat) (x67_70 : Bool), v67 = .bool x67_70 ∧ Aside0 (spec_l3Ins.j2 kq t152 a2_0 x67_70 l0_0 l0_1 a1_0 a1_1 l1_2 a1_3 a1_4 l1_5 l1_6 l1_7 a2_0 a2_1 a2_2 = some r) ∧ Aside0 (kq ≤ kj46) ∧ Aside0 (wc.heap[gb149]? = some (.cells #[(.slice A0_0 l0_0.length c0_0), (.slice A0_1 l0_1.length c0_1)] 31 (0, 0))) ∧ Aside0 (wc.heap[gb150]? = some (.cells #[.int .i64 a1_0, .int .i64 a1_1, (.slice A1_2 l1_2.length c1_2), .int .i64 a1_3, .int .i64 a1_4, (.slice A1_5 l1_5.length c1_5), (.slice A1_6 l1_6.length c1_6), (.slice A1_7 l1_7.length c1_7)] 46 (0, 0))) ∧ Aside0 (wc.heap[gb151]? = some (.cells #[.int .i64 a2_0, .int .i64 a2_1, .int .i64 a2_2] 67 (0, 0))) ∧ Aside0 (Below w.heap.size w wc))
         case first =>
          have H := HC71.out
          clear HC71
          by_cases c72 : a2_0 = 8
          ·rw [if_pos c72] at H
           have c72b0 := beq_iff_eq.mpr c72
           have c72b1 := bne_eq_false_iff_eq.mpr c72
           clear c72
           (first | rw [c72b0] | (simp only [i64_w, i32_w]; rw [c72b0]) | skip)
           have H' := Aside0.mk H
           clear H
           go_wp2
           go_meet
           case rel => exact ⟨_, ((a2_0 == 8)), (by first | rfl | (simp; done) | (simp [*]; done)), H', ⟨by have := HJ23.out; have := HJ46.out; first | omega | exact Nat.le_refl _⟩, kk BK149, kk BK150, kk BK151, ⟨bl⟩⟩
          ·rw [if_neg c72] at H
           have c72b0 := beq_eq_false_iff_ne.mpr c72
           have c72b1 := bne_iff_ne.mpr c72
           (first | rw [c72b0] | (simp only [i64_w, i32_w]; rw [c72b0]) | skip)
           by_cases c73 : a2_0 = 9
           ·rw [if_pos c73] at H
            have c73b0 := beq_iff_eq.mpr c73
            have c73b1 := bne_eq_false_iff_eq.mpr c73
            clear c73
            have H' := Aside0.mk H
            clear H
            go_wp2
            go_meet
            case rel => exact ⟨_, ((a2_0 == 9)), (by first | rfl | (simp; done) | (simp [*]; done)), H', ⟨by have := HJ23.out; have := HJ46.out; first | omega | exact Nat.le_refl _⟩, kk BK149, kk BK150, kk BK151, ⟨bl⟩⟩
           ·rw [if_neg c73] at H
            have c73b0 := beq_eq_false_iff_ne.mpr c73
            have c73b1 := bne_iff_ne.mpr c73
            by_cases c74 : a2_0 = 10
            ·rw [if_pos c74] at H
             have c74b0 := beq_iff_eq.mpr c74
             have c74b1 := bne_eq_false_iff_eq.mpr c74
             clear c74
             have H' := Aside0.mk H
             clear H
             go_wp2
             go_meet
             case rel => exact ⟨_, ((a2_0 == 10)), (by first | rfl | (simp; done) | (simp [*]; done)), H', ⟨by have := HJ23.out; have := HJ46.out; first | omega | exact Nat.le_refl _⟩, kk BK149, kk BK150, kk BK151, ⟨bl⟩⟩
            ·rw [if_neg c74] at H
             have c74b0 := beq_eq_false_iff_ne.mpr c74
             have c74b1 := bne_iff_ne.mpr c74
             have H' := Aside0.mk H
             clear H
             go_wp2
             go_meet
             case rel => exact ⟨_, ((a2_0 == 11)), (by first | rfl | (simp; done) | (simp [*]; done)), H', ⟨by have := HJ23.out; have := HJ46.out; first | omega | exact Nat.le_refl _⟩, kk BK149, kk BK150, kk BK151, ⟨bl⟩⟩
         case rest =>
          clear HC71
          obtain ⟨kq, x67_70, rfl, HA, HJ70, BK149, BK150, BK151, HB⟩ := hcut
          cases kq with
          | zero => exact absurd HA.out (by simp [spec_l3Ins.j2])
          | succ kj70 =>
           have H := HA.out
           clear HA
           simp only [spec_l3Ins.j2] at H
           by_cases c75 : x67_70 = true
           ·subst c75
            replace H := it H
            obtain ⟨t156, A76, H⟩ := ob H
            by_cases c77 : t156 = true
            ·subst c77
             replace H := it H
             obtain rfl := Option.some.inj H; clear H
             have hnb78 := NB151_149.out
             have hnc78 := NB149_151.out
             have hnb79 := NB151_150.out
             have hnc79 := NB150_151.out
             obtain ⟨_,_,_,_,_,_⟩ := cf3 BK151
             have hnb81 := NB150_149.out
             have hnc81 := NB149_150.out
             obtain ⟨_,_,_,_,_,_,_,_,_,_,_,_,_,_,_,_⟩ := cf8 BK150
             go_wp2_with (first | ((with_reducible refine gc 15 rfl ?_); refine gl (some 78) Try.func15 #[.int .i64 a2_1, .int .i64 0, .int .i64 (wrap64 ((l1_5.length : Int) - 1))] rfl ?_; (with_reducible refine (spec_l6In.calls a2_1 0 (wrap64 ((l1_5.length : Int) - 1)) true _ A76.out).mono ?_); rintro e w' ⟨rfl, ⟨nd, rfl⟩⟩; refine ⟨_, rfl, ?_⟩))
             go_ret
             exact fin
            ·replace c77 := Bool.eq_false_iff.mpr c77
             subst c77
             replace H := ie H
             obtain rfl := Option.some.inj H; clear H
             have hnb83 := NB151_149.out
             have hnc83 := NB149_151.out
             have hnb84 := NB151_150.out
             have hnc84 := NB150_151.out
             obtain ⟨_,_,_,_,_,_⟩ := cf3 BK151
             have hnb86 := NB150_149.out
             have hnc86 := NB149_150.out
             obtain ⟨_,_,_,_,_,_,_,_,_,_,_,_,_,_,_,_⟩ := cf8 BK150
             go_wp2_with (first | ((with_reducible refine gc 15 rfl ?_); refine gl (some 78) Try.func15 #[.int .i64 a2_1, .int .i64 0, .int .i64 (wrap64 ((l1_5.length : Int) - 1))] rfl ?_; (with_reducible refine (spec_l6In.calls a2_1 0 (wrap64 ((l1_5.length : Int) - 1)) false _ A76.out).mono ?_); rintro e w' ⟨rfl, ⟨nd, rfl⟩⟩; refine ⟨_, rfl, ?_⟩))
             go_ret
             exact fin
           ·replace c75 := Bool.eq_false_iff.mpr c75
            subst c75
            replace H := ie H
            have HC88 := Aside0.mk H
            clear H
            go_upto_if 84 with (fail)
            go_cut [84] (fun v84 wc => ∃ (kq : Nat) (x84_87 : Bool), v84 = .bool x84_87 ∧ Aside0 (spec_l3Ins.j3 kq t152 a2_0 x84_87 l0_0 l0_1 a2_0 a2_1 a2_2 = some r) ∧ Aside0 (kq ≤ kj70) ∧ Aside0 (wc.heap[gb149]? = some (.cells #[(.slice A0_0 l0_0.length c0_0), (.slice A0_1 l0_1.length c0_1)] 31 (0, 0))) ∧ Aside0 (wc.heap[gb150]? = some (.cells #[.int .i64 a1_0, .int .i64 a1_1, (.slice A1_2 l1_2.length c1_2), .int .i64 a1_3, .int .i64 a1_4, (.slice A1_5 l1_5.length c1_5), (.slice A1_6 l1_6.length c1_6), (.slice A1_7 l1_7.length c1_7)] 46 (0, 0))) ∧ Aside0 (wc.heap[gb151]? = some (.cells #[.int .i64 a2_0, .int .i64 a2_1, .int .i64 a2_2] 67 (0, 0))) ∧ Aside0 (Below w.heap.size w wc))
            case first =>
             have H := HC88.out
             clear HC88
             by_cases c89 : a2_0 = 12
             ·rw [if_pos c89] at H
              have c89b0 := beq_iff_eq.mpr c89
              have c89b1 := bne_eq_false_iff_eq.mpr c89
              clear c89
              (first | rw [c89b0] | (simp only [i64_w, i32_w]; rw [c89b0]) | skip)
              have H' := Aside0.mk H
              clear H
              go_wp2
              go_meet
              case rel => exact ⟨_, ((a2_0 == 12)), (by first | rfl | (simp; done) | (simp [*]; done)), H', ⟨by have := HJ23.out; have := HJ46.out; have := HJ70.out; first | omega | exact Nat.le_refl _⟩, kk BK149, kk BK150, kk BK151, ⟨bl⟩⟩
             ·rw [if_neg c89] at H
              have c89b0 := beq_eq_false_iff_ne.mpr c89
              have c89b1 := bne_iff_ne.mpr c89
              (first | rw [c89b0] | (simp only [i64_w, i32_w]; rw [c89b0]) | skip)
              have H' := Aside0.mk H
              clear H
              go_wp2
              go_meet
              case rel => exact ⟨_, ((a2_0 == 19)), (by first | rfl | (simp; done) | (simp [*]; done)), H', ⟨by have := HJ23.out; have := HJ46.out; have := HJ70.out; first | omega | exact Nat.le_refl _⟩, kk BK149, kk BK150, kk BK151, ⟨bl⟩⟩
            case rest =>
             clear HC88
             obtain ⟨kq, x84_87, rfl, HA, HJ87, BK149, BK150, BK151, HB⟩ := hcut
             cases kq with
             | zero => exact absurd HA.out (by simp [spec_l3Ins.j3])
             | succ kj87 =>
              have H := HA.out
              clear HA
              simp only [spec_l3Ins.j3] at H
              by_cases c90 : x84_87 = true
              ·subst c90
               replace H := it H
               by_cases c91 : t152 = true
               ·subst c91
                replace H := it H
                obtain rfl := Option.some.inj H; clear H
                have hnb92 := NB151_149.out
                have hnc92 := NB149_151.out
                have hnb93 := NB151_150.out
                have hnc93 := NB150_151.out
                obtain ⟨_,_,_,_,_,_⟩ := cf3 BK151
                go_wp2
                go_ret
                exact fin
               ·replace c91 := Bool.eq_false_iff.mpr c91
                subst c91
                replace H := ie H
                obtain rfl := Option.some.inj H; clear H
                go_wp2
                go_ret
                exact fin
              ·replace c90 := Bool.eq_false_iff.mpr c90
               subst c90
               replace H := ie H
               have HC95 := Aside0.mk H
               clear H
               go_upto_if 93 with (fail)
               go_cut [93] (fun v93 wc => ∃ (kq : Nat) (x93_94 : Bool), v93 = .bool x93_94 ∧ Aside0 (spec_l3Ins.j4 kq t152 a2_0 x93_94 l0_0 l0_1 a2_0 a2_1 a2_2 = some r) ∧ Aside0 (kq ≤ kj87) ∧ Aside0 (wc.heap[gb149]? = some (.cells #[(.slice A0_0 l0_0.length c0_0), (.slice A0_1 l0_1.length c0_1)] 31 (0, 0))) ∧ Aside0 (wc.heap[gb150]? = some (.cells #[.int .i64 a1_0, .int .i64 a1_1, (.slice A1_2 l1_2.length c1_2), .int .i64 a1_3, .int .i64 a1_4, (.slice A1_5 l1_5.length c1_5), (.slice A1_6 l1_6.length c1_6), (.slice A1_7 l1_7.length c1_7)] 46 (0, 0))) ∧ Aside0 (wc.heap[gb151]? = some (.cells #[.int .i64 a2_0, .int .i64 a2_1, .int .i64 a2_2] 67 (0, 0))) ∧ Aside0 (Below w.heap.size w wc))
               case first =>
                have H := HC95.out
                clear HC95
                by_cases c96 : a2_0 = 13
                ·rw [if_pos c96] at H
                 have c96b0 := beq_iff_eq.mpr c96
                 have c96b1 := bne_eq_false_iff_eq.mpr c96
                 clear c96
                 (first | rw [c96b0] | (simp only [i64_w, i32_w]; rw [c96b0]) | skip)
                 have H' := Aside0.mk H
                 clear H
                 go_wp2
                 go_meet
                 case rel => exact ⟨_, ((a2_0 == 13)), (by first | rfl | (simp; done) | (simp [*]; done)), H', ⟨by have := HJ23.out; have := HJ46.out; have := HJ70.out; have := HJ87.out; first | omega | exact Nat.le_refl _⟩, kk BK149, kk BK150, kk BK151, ⟨bl⟩⟩
                ·rw [if_neg c96] at H
                 have c96b0 := beq_eq_false_iff_ne.mpr c96
                 have c96b1 := bne_iff_ne.mpr c96
                 (first | rw [c96b0] | (simp only [i64_w, i32_w]; rw [c96b0]) | skip)
                 by_cases c97 : a2_0 = 15
                 ·rw [if_pos c97] at H
                  have c97b0 := beq_iff_eq.mpr c97
                  have c97b1 := bne_eq_false_iff_eq.mpr c97
                  clear c97
                  have H' := Aside0.mk H
                  clear H
                  go_wp2
                  go_meet
                  case rel => exact ⟨_, ((a2_0 == 15)), (by first | rfl | (simp; done) | (simp [*]; done)), H', ⟨by have := HJ23.out; have := HJ46.out; have := HJ70.out; have := HJ87.out; first | omega | exact Nat.le_refl _⟩, kk BK149, kk BK150, kk BK151, ⟨bl⟩⟩
                 ·rw [if_neg c97] at H
                  have c97b0 := beq_eq_false_iff_ne.mpr c97
                  have c97b1 := bne_iff_ne.mpr c97
                  have H' := Aside0.mk H
                  clear H
                  go_wp2
                  go_meet
                  case rel => exact ⟨_, ((a2_0 == 16)), (by first | rfl | (simp; done) | (simp [*]; done)), H', ⟨by have := HJ23.out; have := HJ46.out; have := HJ70.out; have := HJ87.out; first | omega | exact Nat.le_refl _⟩, kk BK149, kk BK150, kk BK151, ⟨bl⟩⟩
               case rest =>
                clear HC95
                obtain ⟨kq, x93_94, rfl, HA, HJ94, BK149, BK150, BK151, HB⟩ := hcut
                cases kq with
                | zero => exact absurd HA.out (by simp [spec_l3Ins.j4])
                | succ kj94 =>
                 have H := HA.out
                 clear HA
                 simp only [spec_l3Ins.j4] at H
                 by_cases c98 : x93_94 = true
                 ·subst c98
                  replace H := it H
                  obtain ⟨t157, A99, H⟩ := ob H
                  by_cases c100 : t157 = true
                  ·subst c100
                   replace H := it H
                   obtain rfl := Option.some.inj H; clear H
                   have hnb101 := NB151_149.out
                   have hnc101 := NB149_151.out
                   have hnb102 := NB151_150.out
                   have hnc102 := NB150_151.out
                   obtain ⟨_,_,_,_,_,_⟩ := cf3 BK151
                   go_wp2_with (first | ((with_reducible refine gc 15 rfl ?_); refine gl (some 99) Try.func15 #[.int .i64 a2_1, .int .i64 0, .int .i64 1] rfl ?_; (with_reducible refine (spec_l6In.calls a2_1 0 1 true _ A99.out).mono ?_); rintro e w' ⟨rfl, ⟨nd, rfl⟩⟩; refine ⟨_, rfl, ?_⟩))
                   go_ret
                   exact fin
                  ·replace c100 := Bool.eq_false_iff.mpr c100
                   subst c100
                   replace H := ie H
                   obtain rfl := Option.some.inj H; clear H
                   have hnb104 := NB151_149.out
                   have hnc104 := NB149_151.out
                   have hnb105 := NB151_150.out
                   have hnc105 := NB150_151.out
                   obtain ⟨_,_,_,_,_,_⟩ := cf3 BK151
                   go_wp2_with (first | ((with_reducible refine gc 15 rfl ?_); refine gl (some 99) Try.func15 #[.int .i64 a2_1, .int .i64 0, .int .i64 1] rfl ?_; (with_reducible refine (spec_l6In.calls a2_1 0 1 false _ A99.out).mono ?_); rintro e w' ⟨rfl, ⟨nd, rfl⟩⟩; refine ⟨_, rfl, ?_⟩))
                   go_ret
                   exact fin
                 ·replace c98 := Bool.eq_false_iff.mpr c98
                  subst c98
                  replace H := ie H
                  have HC107 := Aside0.mk H
                  clear H
                  go_upto_if 105 with (fail)
                  go_cut [105] (fun v105 wc => ∃ (kq : Nat) (x105_106 : Bool), v105 = .bool x105_106 ∧ Aside0 (spec_l3Ins.j5 kq t152 a2_0 x105_106 l0_0 l0_1 a2_0 a2_1 a2_2 = some r) ∧ Aside0 (kq ≤ kj94) ∧ Aside0 (wc.heap[gb149]? = some (.cells #[(.slice A0_0 l0_0.length c0_0), (.slice A0_1 l0_1.length c0_1)] 31 (0, 0))) ∧ Aside0 (wc.heap[gb150]? = some (.cells #[.int .i64 a1_0, .int .i64 a1_1, (.slice A1_2 l1_2.length c1_2), .int .i64 a1_3, .int .i64 a1_4, (.slice A1_5 l1_5.length c1_5), (.slice A1_6 l1_6.length c1_6), (.slice A1_7 l1_7.length c1_7)] 46 (0, 0))) ∧ Aside0 (wc.heap[gb151]? = some (.cells #[.int .i64 a2_0, .int .i64 a2_1, .int .i64 a2_2] 67 (0, 0))) ∧ Aside0 (Below w.heap.size w wc))
                  case first =>
                   have H := HC107.out
                   clear HC107
                   by_cases c108 : a2_0 = 17
                   ·rw [if_pos c108] at H
                    have c108b0 := beq_iff_eq.mpr c108
                    have c108b1 := bne_eq_false_iff_eq.mpr c108
                    clear c108
                    (first | rw [c108b0] | (simp only [i64_w, i32_w]; rw [c108b0]) | skip)
                    have H' := Aside0.mk H
                    clear H
                    go_wp2
                    go_meet
                    case rel => exact ⟨_, ((a2_0 == 17)), (by first | rfl | (simp; done) | (simp [*]; done)), H', ⟨by have := HJ23.out; have := HJ46.out; have := HJ70.out; have := HJ87.out; have := HJ94.out; first | omega | exact Nat.le_refl _⟩, kk BK149, kk BK150, kk BK151, ⟨bl⟩⟩
                   ·rw [if_neg c108] at H
                    have c108b0 := beq_eq_false_iff_ne.mpr c108
                    have c108b1 := bne_iff_ne.mpr c108
                    (first | rw [c108b0] | (simp only [i64_w, i32_w]; rw [c108b0]) | skip)
                    have H' := Aside0.mk H
                    clear H
                    go_wp2
                    go_meet
                    case rel => exact ⟨_, ((a2_0 == 18)), (by first | rfl | (simp; done) | (simp [*]; done)), H', ⟨by have := HJ23.out; have := HJ46.out; have := HJ70.out; have := HJ87.out; have := HJ94.out; first | omega | exact Nat.le_refl _⟩, kk BK149, kk BK150, kk BK151, ⟨bl⟩⟩
                  case rest =>
                   clear HC107
                   obtain ⟨kq, x105_106, rfl, HA, HJ106, BK149, BK150, BK151, HB⟩ := hcut
                   cases kq with
                   | zero => exact absurd HA.out (by simp [spec_l3Ins.j5])
                   | succ kj106 =>
                    have H := HA.out
                    clear HA
                    simp only [spec_l3Ins.j5] at H
                    by_cases c109 : x105_106 = true
                    ·subst c109
                     replace H := it H
                     by_cases c110 : t152 = true
                     ·subst c110
                      replace H := it H
                      obtain ⟨t158, A111, H⟩ := ob H
                      obtain ⟨t161, A112, H⟩ := ob H
                      obtain rfl := Option.some.inj H; clear H
                      try go_wp2
                      replace BK149 := Aside0.mk (blk_drew BK149.out)
                      replace BK150 := Aside0.mk (blk_drew BK150.out)
                      replace BK151 := Aside0.mk (blk_drew BK151.out)
                      replace HB := Aside0.mk (below_drew1 HB.out)
                      refine start_ (n := 14) (S := fun w' => w'.cell? ⟨gb151, 0, none⟩ = some (.int .i64 a2_0) ∧ w'.cell? ⟨gb151, 1, none⟩ = some (.int .i64 a2_1) ∧ w'.cell? ⟨gb151, 2, none⟩ = some (.int .i64 a2_2) ∧ w'.cell? ⟨gb149, 0, none⟩ = some (.slice A0_0 l0_0.length c0_0) ∧ w'.cell? ⟨gb149, 1, none⟩ = some (.slice A0_1 l0_1.length c0_1)) (ds := []) #[false, false, false, false, false, false, false, false, false, false, false, false, false, false] (by kernel_rfl) rfl rfl ⟨(blk_cell BK151.out 0).trans rfl, (blk_cell BK151.out 1).trans rfl, (blk_cell BK151.out 2).trans rfl, (blk_cell BK149.out 0).trans rfl, (blk_cell BK149.out 1).trans rfl⟩ (fun hHeld => ?_); refine with_tabW spec_l3Ins.tab32 spec_l3Ins.bits32 (fun HT_ HW_ => ?_)
                      generalize wc.drew = w113 at BK149 BK150 BK151 HB hHeld ⊢
                      refine pu 0 108 #[true, false, false, false, false, false, false, false, false, false, false, false, false, false] HT_ rfl rfl ?_
                      refine pu 1 109 #[true, true, false, false, false, false, false, false, false, false, false, false, false, false] HT_ rfl rfl ?_
                      refine pu 2 110 #[true, true, true, false, false, false, false, false, false, false, false, false, false, false] HT_ rfl rfl ?_
                      refine pu 4 112 #[true, true, true, false, true, false, false, false, false, false, false, false, false, false] HT_ rfl rfl ?_
                      refine pu 6 114 #[true, true, true, false, true, false, true, false, false, false, false, false, false, false] HT_ rfl rfl ?_
                      refine ta 3 111 #[true, true, true, true, true, false, true, false, false, false, false, false, false, false] HT_ HW_ hHeld rfl rfl ?_
                      refine ta 5 113 #[true, true, true, true, true, true, true, false, false, false, false, false, false, false] HT_ HW_ hHeld rfl rfl ?_
                      refine ta 7 115 #[true, true, true, true, true, true, true, true, false, false, false, false, false, false] HT_ HW_ hHeld rfl rfl ?_
                      refine one_ (i := 8) (N := some 116) #[true, true, true, true, true, true, true, true, true, false, false, false, false, false] rfl rfl (one_of HT_.out (by kernel_rfl)) (by decide) (fun K hK => ?_)
                      refine gs Try.func56 #[.slice A0_0 l0_0.length c0_0, .int .i64 a2_1] rfl rfl ?_
                      with_reducible refine (spec_l2Fields.calls kj106 _ _ l0_0 a2_1 t158 _ ?side1 ?side2 A111.out).mono ?_
                      (case side1 => exact cb HR0_0.out)
                      (case side2 => exact HC0_0.out)
                      rintro e w114 ⟨v159, rfl, ho0, hb⟩
                      refine ⟨_, rfl, ?_⟩
                      have HO160 := Aside0.mk (Kd.R_lower ho0 (below_size bl))
                      replace BK149 := kb BK149 hb
                      replace BK150 := kb BK150 hb
                      replace BK151 := kb BK151 hb
                      replace HB := hs HB hb
                      (try clear hb)
                      (try clear hb2)
                      (try clear hk)
                      (try clear hi)
                      (try clear ho0)
                      obtain ⟨Ao115, co115, eo115⟩ := Kd.R_slice HO160.out
                      (first | subst eo115 | (injection eo115 with f1_ f2_ f3_; have f4_ := f1_.symm; have f5_ := f3_.symm; clear f1_ f2_ f3_; subst f4_; subst f5_))
                      refine hK.out _ _ ⟨(blk_cell BK151.out 0).trans rfl, (blk_cell BK151.out 1).trans rfl, (blk_cell BK151.out 2).trans rfl, (blk_cell BK149.out 0).trans rfl, (blk_cell BK149.out 1).trans rfl⟩ (fun hHeld => ?_)
                      clear hK K
                      refine no 116 ?_
                      refine pu 9 117 #[true, true, true, true, true, true, true, true, true, true, false, false, false, false] HT_ rfl rfl ?_
                      refine pu 10 118 #[true, true, true, true, true, true, true, true, true, true, true, false, false, false] HT_ rfl rfl ?_
                      refine one_ (i := 11) (N := some 119) #[true, true, true, true, true, true, true, true, true, true, true, true, false, false] rfl rfl (one_of HT_.out (by kernel_rfl)) (by decide) (fun K hK => ?_)
                      refine gs Try.func15 #[.int .i64 a2_2, .int .i64 0, .int .i64 (wrap64 ((t158.length : Int) - 1))] rfl rfl ?_
                      with_reducible refine (spec_l6In.calls a2_2 0 (wrap64 ((t158.length : Int) - 1)) t161 _ A112.out).mono ?_
                      rintro e w' ⟨rfl, ⟨nd, rfl⟩⟩
                      refine ⟨_, rfl, ?_⟩
                      refine hK.out _ _ ⟨(blk_cell BK151.out 0).trans rfl, (blk_cell BK151.out 1).trans rfl, (blk_cell BK151.out 2).trans rfl, (blk_cell BK149.out 0).trans rfl, (blk_cell BK149.out 1).trans rfl⟩ (fun hHeld => ?_)
                      clear hK K
                      refine no 119 ?_
                      refine pu 12 120 #[true, true, true, true, true, true, true, true, true, true, true, true, true, false] HT_ rfl rfl ?_
                      refine pu 13 6 #[true, true, true, true, true, true, true, true, true, true, true, true, true, true] HT_ rfl rfl ?_
                      refine done_ (done_of HT_.out (by kernel_rfl)) ?_
                      try go_wp2
                      go_ret
                      exact fin
                     ·replace c110 := Bool.eq_false_iff.mpr c110
                      subst c110
                      replace H := ie H
                      obtain rfl := Option.some.inj H; clear H
                      try go_wp2
                      replace BK149 := Aside0.mk (blk_drew BK149.out)
                      replace BK150 := Aside0.mk (blk_drew BK150.out)
                      replace BK151 := Aside0.mk (blk_drew BK151.out)
                      replace HB := Aside0.mk (below_drew1 HB.out)
                      refine start_ (n := 14) (S := fun w' => True) (ds := []) #[false, false, false, false, false, false, false, false, false, false, false, false, false, false] (by kernel_rfl) rfl rfl trivial (fun hHeld => ?_); refine with_tabW spec_l3Ins.tab32 spec_l3Ins.bits32 (fun HT_ HW_ => ?_)
                      generalize wc.drew = w116 at BK149 BK150 BK151 HB hHeld ⊢
                      refine pu 0 108 #[true, false, false, false, false, false, false, false, false, false, false, false, false, false] HT_ rfl rfl ?_
                      refine pu 1 109 #[true, true, false, false, false, false, false, false, false, false, false, false, false, false] HT_ rfl rfl ?_
                      refine pv 2 110 #[true, true, true, false, false, false, false, false, false, false, false, false, false, false] HT_ rfl rfl ?_
                      refine pv 3 111 #[true, true, true, true, false, false, false, false, false, false, false, false, false, false] HT_ rfl rfl ?_
                      refine pv 4 112 #[true, true, true, true, true, false, false, false, false, false, false, false, false, false] HT_ rfl rfl ?_
                      refine pv 5 113 #[true, true, true, true, true, true, false, false, false, false, false, false, false, false] HT_ rfl rfl ?_
                      refine pv 6 114 #[true, true, true, true, true, true, true, false, false, false, false, false, false, false] HT_ rfl rfl ?_
                      refine pv 7 115 #[true, true, true, true, true, true, true, true, false, false, false, false, false, false] HT_ rfl rfl ?_
                      refine pv 8 116 #[true, true, true, true, true, true, true, true, true, false, false, false, false, false] HT_ rfl rfl ?_
                      refine pv 9 117 #[true, true, true, true, true, true, true, true, true, true, false, false, false, false] HT_ rfl rfl ?_
                      refine pv 10 118 #[true, true, true, true, true, true, true, true, true, true, true, false, false, false] HT_ rfl rfl ?_
                      refine pv 11 119 #[true, true, true, true, true, true, true, true, true, true, true, true, false, false] HT_ rfl rfl ?_
                      refine pu 12 120 #[true, true, true, true, true, true, true, true, true, true, true, true, true, false] HT_ rfl rfl ?_
                      refine pu 13 6 #[true, true, true, true, true, true, true, true, true, true, true, true, true, true] HT_ rfl rfl ?_
                      refine done_ (done_of HT_.out (by kernel_rfl)) ?_
                      try go_wp2
                      go_ret
                      exact fin
                    ·replace c109 := Bool.eq_false_iff.mpr c109
                     subst c109
                     replace H := ie H
                     by_cases c117 : a2_0 = 20
                     ·rw [if_pos c117] at H
                      have c117b0 := beq_iff_eq.mpr c117
                      have c117b1 := bne_eq_false_iff_eq.mpr c117
                      clear c117
                      obtain ⟨t162, A118, H⟩ := ob H
                      by_cases c119 : t162 = true
                      ·subst c119
                       replace H := it H
                       by_cases c120 : a2_2 = 0
                       ·rw [if_pos c120] at H
                        have c120b0 := beq_iff_eq.mpr c120
                        have c120b1 := bne_eq_false_iff_eq.mpr c120
                        clear c120
                        by_cases c121 : 0 ≤ a2_1
                        ·rw [if_pos c121] at H
                         have c121b0 : decide (0 ≤ a2_1) = true := decide_eq_true c121
                         clear c121
                         by_cases c122 : a2_1 < (l0_1.length : Int)
                         ·rw [if_pos c122] at H
                          have c122b0 : decide (a2_1 < (l0_1.length : Int)) = true := decide_eq_true c122
                          clear c122
                          obtain rfl := Option.some.inj H; clear H
                          have hnb123 := NB151_149.out
                          have hnc123 := NB149_151.out
                          have hnb124 := NB151_150.out
                          have hnc124 := NB150_151.out
                          obtain ⟨_,_,_,_,_,_⟩ := cf3 BK151
                          have hnb126 := NB149_150.out
                          have hnc126 := NB150_149.out
                          obtain ⟨_,_,_,_⟩ := cf2 BK149
                          go_wp2_with (first | ((with_reducible refine gc 15 rfl ?_); refine gl (some 129) Try.func15 #[.int .i64 a2_1, .int .i64 0, .int .i64 (wrap64 ((l0_1.length : Int) - 1))] rfl ?_; (with_reducible refine (spec_l6In.calls a2_1 0 (wrap64 ((l0_1.length : Int) - 1)) true _ A118.out).mono ?_); rintro e w' ⟨rfl, ⟨nd, rfl⟩⟩; refine ⟨_, rfl, ?_⟩; have p163 : 0 ≤ (a2_1 : Int) := od; have q163 : a2_1 < (l0_1.length : Int) := od; obtain ⟨ad163, A163_2, c163_2, A163_5, c163_5, A163_6, c163_6, A163_7, c163_7, e163, hx163_0, hx163_1, hx163_2, hx163_3, hx163_4, hx163_5, hx163_6, hx163_7, hl163_2, hi163_2, hl163_5, hi163_5, hl163_6, hi163_6, hl163_7, hi163_7⟩ := at_T46 HR0_1.out a2_1 p163 q163; cases e163; obtain ⟨hx163_0,hx163_1,hx163_2,hx163_3,hx163_4,hx163_5,hx163_6,hx163_7⟩ := hc8 HB hx163_0 hx163_1 hx163_2 hx163_3 hx163_4 hx163_5 hx163_6 hx163_7; have HR163_2 := Aside0.mk hi163_2; have HC163_2 := Aside0.mk hl163_2; clear hi163_2 hl163_2; have HR163_5 := Aside0.mk hi163_5; have HC163_5 := Aside0.mk hl163_5; clear hi163_5 hl163_5; have HR163_6 := Aside0.mk hi163_6; have HC163_6 := Aside0.mk hl163_6; clear hi163_6 hl163_6; have HR163_7 := Aside0.mk hi163_7; have HC163_7 := Aside0.mk hl163_7; clear hi163_7 hl163_7; replace p163 := eq_true p163; replace q163 := eq_true q163))
                          go_ret
                          exact fin
                         ·rw [if_neg c122] at H
                          exact absurd H (by simp)
                        ·rw [if_neg c121] at H
                         exact absurd H (by simp)
                       ·rw [if_neg c120] at H
                        have c120b0 := beq_eq_false_iff_ne.mpr c120
                        have c120b1 := bne_iff_ne.mpr c120
                        obtain rfl := Option.some.inj H; clear H
                        have hnb128 := NB151_149.out
                        have hnc128 := NB149_151.out
                        have hnb129 := NB151_150.out
                        have hnc129 := NB150_151.out
                        obtain ⟨_,_,_,_,_,_⟩ := cf3 BK151
                        have hnb131 := NB149_150.out
                        have hnc131 := NB150_149.out
                        obtain ⟨_,_,_,_⟩ := cf2 BK149
                        go_wp2_with (first | ((with_reducible refine gc 15 rfl ?_); refine gl (some 129) Try.func15 #[.int .i64 a2_1, .int .i64 0, .int .i64 (wrap64 ((l0_1.length : Int) - 1))] rfl ?_; (with_reducible refine (spec_l6In.calls a2_1 0 (wrap64 ((l0_1.length : Int) - 1)) true _ A118.out).mono ?_); rintro e w' ⟨rfl, ⟨nd, rfl⟩⟩; refine ⟨_, rfl, ?_⟩))
                        go_ret
                        exact fin
                      ·replace c119 := Bool.eq_false_iff.mpr c119
                       subst c119
                       replace H := ie H
                       obtain rfl := Option.some.inj H; clear H
                       have hnb133 := NB151_149.out
                       have hnc133 := NB149_151.out
                       have hnb134 := NB151_150.out
                       have hnc134 := NB150_151.out
                       obtain ⟨_,_,_,_,_,_⟩ := cf3 BK151
                       have hnb136 := NB149_150.out
                       have hnc136 := NB150_149.out
                       obtain ⟨_,_,_,_⟩ := cf2 BK149
                       go_wp2_with (first | ((with_reducible refine gc 15 rfl ?_); refine gl (some 129) Try.func15 #[.int .i64 a2_1, .int .i64 0, .int .i64 (wrap64 ((l0_1.length : Int) - 1))] rfl ?_; (with_reducible refine (spec_l6In.calls a2_1 0 (wrap64 ((l0_1.length : Int) - 1)) false _ A118.out).mono ?_); rintro e w' ⟨rfl, ⟨nd, rfl⟩⟩; refine ⟨_, rfl, ?_⟩))
                       go_ret
                       exact fin
                     ·rw [if_neg c117] at H
                      have c117b0 := beq_eq_false_iff_ne.mpr c117
                      have c117b1 := bne_iff_ne.mpr c117
                      by_cases c138 : a2_0 = 21
                      ·rw [if_pos c138] at H
                       have c138b0 := beq_iff_eq.mpr c138
                       have c138b1 := bne_eq_false_iff_eq.mpr c138
                       clear c138
                       by_cases c139 : t152 = true
                       ·subst c139
                        replace H := it H
                        obtain ⟨t164, A140, H⟩ := ob H
                        obtain rfl := Option.some.inj H; clear H
                        have hnb141 := NB151_149.out
                        have hnc141 := NB149_151.out
                        have hnb142 := NB151_150.out
                        have hnc142 := NB150_151.out
                        obtain ⟨_,_,_,_,_,_⟩ := cf3 BK151
                        go_wp2_with (first | (go_at_call 15; (with_reducible refine (spec_l6In.calls a2_2 0 2 t164 _ A140.out).mono ?_); rintro e w' ⟨rfl, ⟨nd, rfl⟩⟩))
                        go_ret
                        exact fin
                       ·replace c139 := Bool.eq_false_iff.mpr c139
                        subst c139
                        replace H := ie H
                        obtain rfl := Option.some.inj H; clear H
                        go_wp2
                        go_ret
                        exact fin
                      ·rw [if_neg c138] at H
                       have c138b0 := beq_eq_false_iff_ne.mpr c138
                       have c138b1 := bne_iff_ne.mpr c138
                       obtain rfl := Option.some.inj H; clear H
                       go_wp2
                       go_ret
                       exact fin
end Go.Proofs.Ytedodaifpekahaa.P

end
section

namespace Go.Proofs.Ytedodaifpekahaa.P
open Go.RowKit Go.Proofs.YtedodaifpekahaaW.PrintWords Go.Proofs.YtedodaifpekahaaW.PrintLast Go.Proofs.YtedodaifpekahaaW.PrintMore
attribute [local go_sem] max2_int min2_int max_two min_two max_three min_three max_four min_four
set_option linter.unusedVariables false
set_option linter.unusedSimpArgs false
set_option maxHeartbeats 8000000 in
set_option maxRecDepth 100000 in
theorem spec_TypeOk.calls (k : Nat) (A0 : Option Addr) (c0 : Nat) (l0 : List (S76)) (a1 : Int) (r : Bool) (w : World) (hr0 : Kd.C k76 w A0 l0.length l0) (hc0 : l0.length ≤ c0) (h : spec_TypeOk.f k l0 a1 = some r) :
  Calls Try.prog 57 #[.slice A0 l0.length c0, .int .i64 a1] w fun e w' => e = .returned (.bool r) ∧ Below w.heap.size w w' := by
 have HR0 := Aside0.mk hr0
 have HC0 := Aside0.mk hc0
 clear hr0 hc0
 have HB := Aside0.mk (Below.refl w.heap.size w)
 have H : ((spec_ClassesOk.f k l0).bind fun t165 => (if t165 = true then (if a1 = 0 then (some true) else (if a1 = 2 then (some true) else ((spec_l2Field.f l0 a1).bind fun t166 => (some t166)))) else (some false))) = some r := h
 clear h
 obtain ⟨t165, A3, H⟩ := ob H
 by_cases c4 : t165 = true
 ·subst c4
  replace H := it H
  by_cases c5 : a1 = 0
  ·rw [if_pos c5] at H
   have c5b0 := beq_iff_eq.mpr c5
   have c5b1 := bne_eq_false_iff_eq.mpr c5
   clear c5
   obtain rfl := Option.some.inj H; clear H
   go_enter Try.func57, Try.ntmps57
   go_wp2_with (first | ((with_reducible refine gc 14 rfl ?_); refine gl (some 6) Try.func14 #[.slice A0 l0.length c0] rfl ?_; (with_reducible refine (spec_ClassesOk.calls k _ _ l0 true _ ?side1 ?side2 A3.out).mono ?_); (case side1 => repeat (first | exact HR0.out | (with_reducible refine Kd.C_alloc ?_ _) | (with_reducible refine Kd.C_drewN ?_ _) | (with_reducible refine Kd.C_drew ?_))); (case side2 => exact HC0.out); rintro e w6 ⟨rfl, hb⟩; refine ⟨_, rfl, ?_⟩; replace HB := hs HB hb; (try clear hb)))
   go_ret
   exact fin
  ·rw [if_neg c5] at H
   have c5b0 := beq_eq_false_iff_ne.mpr c5
   have c5b1 := bne_iff_ne.mpr c5
   by_cases c7 : a1 = 2
   ·rw [if_pos c7] at H
    have c7b0 := beq_iff_eq.mpr c7
    have c7b1 := bne_eq_false_iff_eq.mpr c7
    clear c7
    obtain rfl := Option.some.inj H; clear H
    go_enter Try.func57, Try.ntmps57
    go_wp2_with (first | ((with_reducible refine gc 14 rfl ?_); refine gl (some 6) Try.func14 #[.slice A0 l0.length c0] rfl ?_; (with_reducible refine (spec_ClassesOk.calls k _ _ l0 true _ ?side1 ?side2 A3.out).mono ?_); (case side1 => repeat (first | exact HR0.out | (with_reducible refine Kd.C_alloc ?_ _) | (with_reducible refine Kd.C_drewN ?_ _) | (with_reducible refine Kd.C_drew ?_))); (case side2 => exact HC0.out); rintro e w8 ⟨rfl, hb⟩; refine ⟨_, rfl, ?_⟩; replace HB := hs HB hb; (try clear hb)))
    go_ret
    exact fin
   ·rw [if_neg c7] at H
    have c7b0 := beq_eq_false_iff_ne.mpr c7
    have c7b1 := bne_iff_ne.mpr c7
    obtain ⟨t166, A9, H⟩ := ob H
    obtain rfl := Option.some.inj H; clear H
    go_enter Try.func57, Try.ntmps57
    go_wp2_with (first | ((with_reducible refine gc 14 rfl ?_); refine gl (some 6) Try.func14 #[.slice A0 l0.length c0] rfl ?_; (with_reducible refine (spec_ClassesOk.calls k _ _ l0 true _ ?side1 ?side2 A3.out).mono ?_); (case side1 => repeat (first | exact HR0.out | (with_reducible refine Kd.C_alloc ?_ _) | (with_reducible refine Kd.C_drewN ?_ _) | (with_reducible refine Kd.C_drew ?_))); (case side2 => exact HC0.out); rintro e w10 ⟨rfl, hb⟩; refine ⟨_, rfl, ?_⟩; replace HB := hs HB hb; (try clear hb)) | (go_at_call 54; (with_reducible refine (spec_l2Field.calls _ _ l0 a1 t166 _ ?side1 ?side2 A9.out).mono ?_); (case side1 => exact cb HR0.out); (case side2 => exact HC0.out); rintro e w' ⟨rfl, ⟨nd, rfl⟩⟩))
    go_ret
    exact fin
 ·replace c4 := Bool.eq_false_iff.mpr c4
  subst c4
  replace H := ie H
  obtain rfl := Option.some.inj H; clear H
  go_enter Try.func57, Try.ntmps57
  go_wp2_with (first | ((with_reducible refine gc 14 rfl ?_); refine gl (some 6) Try.func14 #[.slice A0 l0.length c0] rfl ?_; (with_reducible refine (spec_ClassesOk.calls k _ _ l0 false _ ?side1 ?side2 A3.out).mono ?_); (case side1 => repeat (first | exact HR0.out | (with_reducible refine Kd.C_alloc ?_ _) | (with_reducible refine Kd.C_drewN ?_ _) | (with_reducible refine Kd.C_drew ?_))); (case side2 => exact HC0.out); rintro e w11 ⟨rfl, hb⟩; refine ⟨_, rfl, ?_⟩; replace HB := hs HB hb; (try clear hb)))
  go_ret
  exact fin
end Go.Proofs.Ytedodaifpekahaa.P

end
section

namespace Go.Proofs.Ytedodaifpekahaa.P
open Go.RowKit Go.Proofs.YtedodaifpekahaaW.PrintWords Go.Proofs.YtedodaifpekahaaW.PrintLast Go.Proofs.YtedodaifpekahaaW.PrintMore
attribute [local go_sem] max2_int min2_int max_two min_two max_three min_three max_four min_four
set_option linter.unusedVariables false
set_option linter.unusedSimpArgs false
set_option maxHeartbeats 8000000 in
set_option maxRecDepth 100000 in
theorem spec_ShapeOk.calls (k : Nat) (A0 : Option Addr) (c0 : Nat) (l0 : List (S76)) (a1 : Int) (a2_0 : Bool) (A2_1 : Option Addr) (c2_1 : Nat) (l2_1 : List Int) (A2_2 : Option Addr) (c2_2 : Nat) (l2_2 : List Int) (r : Bool) (w : World) (hr0 : Kd.C k76 w A0 l0.length l0) (hc0 : l0.length ≤ c0) (hr2_1 : Kd.C (Kd.int .i64) w A2_1 l2_1.length l2_1) (hc2_1 : l2_1.length ≤ c2_1) (hr2_2 : Kd.C (Kd.int .i64) w A2_2 l2_2.length l2_2) (hc2_2 : l2_2.length ≤ c2_2) (h : spec_ShapeOk.f k l0 a1 a2_0 l2_1 l2_2 = some r) :
  Calls Try.prog 36 #[.slice A0 l0.length c0, .int .i64 a1, .agg #[.bool a2_0, .slice A2_1 l2_1.length c2_1, .slice A2_2 l2_2.length c2_2]] w fun e w' => e = .returned (.bool r) ∧ Below w.heap.size w w' := by
 have hu70 := Try.underlying70
 have HR0 := Aside0.mk hr0
 have HC0 := Aside0.mk hc0
 clear hr0 hc0
 have HR2_1 := Aside0.mk hr2_1
 have HC2_1 := Aside0.mk hc2_1
 clear hr2_1 hc2_1
 have HR2_2 := Aside0.mk hr2_2
 have HC2_2 := Aside0.mk hc2_2
 clear hr2_2 hc2_2
 have HB := Aside0.mk (Below.refl w.heap.size w)
 have H : ((spec_ClassesOk.f k l0).bind fun t168 => (if t168 = true then (if a2_0 = true then (if (l2_1.length : Int) = a1 then (spec_ShapeOk.j0 k l0 (decide ((l2_2.length : Int) > 4)) a2_0 l2_1 l2_2) else (spec_ShapeOk.j0 k l0 true a2_0 l2_1 l2_2)) else (if (l2_1.length : Int) = 0 then (some ((l2_2.length : Int) == 0)) else (some false))) else (some false))) = some r := h
 clear h
 obtain ⟨t168, A4, H⟩ := ob H
 by_cases c5 : t168 = true
 ·subst c5
  replace H := it H
  by_cases c6 : a2_0 = true
  ·subst c6
   replace H := it H
   have HC7 := Aside0.mk H
   clear H
   go_enter Try.func36, Try.ntmps36
   go_upto_region 5 with (first | ((with_reducible refine gd 5 rfl ?_); (try (refine gate_guard (by rfl) ?_; dsimp only)); refine bx 5 #[.bool true, .slice A2_1 l2_1.length c2_1, .slice A2_2 l2_2.length c2_2] 70 ?_; intro gb167 hg w8 hbox hb; have BK167 := Aside0.mk hbox; have GW167 := hz HB hg; have GE167 := hz HB hg; replace HB := hs HB hb; clear hb hbox hg) | ((with_reducible refine gc 14 rfl ?_); refine gl (some 10) Try.func14 #[.slice A0 l0.length c0] rfl ?_; (with_reducible refine (spec_ClassesOk.calls k _ _ l0 true _ ?side1 ?side2 A4.out).mono ?_); (case side1 => exact cb HR0.out); (case side2 => exact HC0.out); rintro e w9 ⟨rfl, hb⟩; refine ⟨_, rfl, ?_⟩; replace BK167 := kb BK167 hb; replace HB := hs HB hb; (try clear hb); obtain ⟨_,_,_,_,_,_⟩ := cf3 BK167))
   (try simp only [Act.put, List.setIfInBounds_toArray, List.set_cons_zero, List.set_cons_succ])
   go_cut [35] (fun v35 wc => ∃ (kq : Nat) (x35_6 : Bool), v35 = .bool x35_6 ∧ Aside0 (spec_ShapeOk.j0 kq l0 x35_6 true l2_1 l2_2 = some r) ∧ Aside0 (kq ≤ k) ∧ Aside0 (wc.heap[gb167]? = some (.cells #[.bool true, (.slice A2_1 l2_1.length c2_1), (.slice A2_2 l2_2.length c2_2)] 70 (0, 0))) ∧ Aside0 (Below w.heap.size w wc))
   case first =>
    have H := HC7.out
    clear HC7
    by_cases c11 : (l2_1.length : Int) = a1
    ·rw [if_pos c11] at H
     have c11b0 := beq_iff_eq.mpr c11
     have c11b1 := bne_eq_false_iff_eq.mpr c11
     clear c11
     (first | rw [c11b0] | (simp only [i64_w, i32_w]; rw [c11b0]) | skip)
     have H' := Aside0.mk H
     clear H
     obtain ⟨_,_,_,_,_,_⟩ := cf3 BK167
     go_wp2
     go_meet
     case rel => exact ⟨_, (decide ((l2_2.length : Int) > 4)), (by first | rfl | (simp; done) | (simp [*]; done)), H', ⟨by first | omega | exact Nat.le_refl _⟩, kk BK167, ⟨bl⟩⟩
    ·rw [if_neg c11] at H
     have c11b0 := beq_eq_false_iff_ne.mpr c11
     have c11b1 := bne_iff_ne.mpr c11
     (first | rw [c11b0] | (simp only [i64_w, i32_w]; rw [c11b0]) | skip)
     have H' := Aside0.mk H
     clear H
     obtain ⟨_,_,_,_,_,_⟩ := cf3 BK167
     go_wp2
     go_meet
     case rel => exact ⟨_, (true), (by first | rfl | (simp; done) | (simp [*]; done)), H', ⟨by first | omega | exact Nat.le_refl _⟩, kk BK167, ⟨bl⟩⟩
   case rest =>
    clear HC7
    obtain ⟨kq, x35_6, rfl, HA, HJ6, BK167, HB⟩ := hcut
    cases kq with
    | zero => exact absurd HA.out (by simp [spec_ShapeOk.j0])
    | succ kj6 =>
     have H := HA.out
     clear HA
     simp only [spec_ShapeOk.j0] at H
     by_cases c14 : x35_6 = true
     ·subst c14
      replace H := it H
      obtain rfl := Option.some.inj H; clear H
      go_wp2
      go_ret
      exact fin
     ·replace c14 := Bool.eq_false_iff.mpr c14
      subst c14
      replace H := ie H
      have H' := Aside0.mk H
      clear H
      go_wp2
      go_loopg [7] kj6 (fun kq v7 w' => ∃ (x7_2 : Int), v7 = .int .i64 x7_2 ∧ Aside0 (spec_ShapeOk.l0 kq l0 x7_2 true l2_1 l2_2 = some r) ∧ Aside0 (kq ≤ kj6) ∧ Aside0 (w'.heap[gb167]? = some (.cells #[.bool true, (.slice A2_1 l2_1.length c2_1), (.slice A2_2 l2_2.length c2_2)] 70 (0, 0))) ∧ Aside0 (Below w.heap.size w w'))
      case atStart => exact ⟨(0), (by first | rfl | (simp; done) | (simp [*]; done)), H', ⟨Nat.le_refl _⟩, kk BK167, ⟨bl⟩⟩
      case round =>
       clear H'
       obtain ⟨x7_2, rfl, HA, HK2, BK167, HB⟩ := hrel
       cases gk with
       | zero => exact absurd HA.out (by simp [spec_ShapeOk.l0])
       | succ k2 =>
        have H := HA.out
        clear HA
        simp only [spec_ShapeOk.l0] at H
        by_cases c15 : x7_2 < (l2_1.length : Int)
        ·rw [if_pos c15] at H
         have c15b0 : decide (x7_2 < (l2_1.length : Int)) = true := decide_eq_true c15
         clear c15
         by_cases c16 : 0 ≤ x7_2
         ·rw [if_pos c16] at H
          have c16b0 : decide (0 ≤ x7_2) = true := decide_eq_true c16
          clear c16
          obtain ⟨t170, A17, H⟩ := ob H
          by_cases c18 : t170 = true
          ·subst c18
           replace H := it H
           have H' := Aside0.mk H
           clear H
           obtain ⟨_,_,_,_,_,_⟩ := cf3 BK167
           have p169 : 0 ≤ (x7_2 : Int) := od
           have q169 : x7_2 < (l2_1.length : Int) := od
           obtain ⟨ad169, e169, hx169_0⟩ := Kd.at_int HR2_1.out x7_2 p169 q169
           cases e169
           replace hx169_0 := hc HB hx169_0
           replace p169 := eq_true p169
           replace q169 := eq_true q169
           go_wp2_with (first | ((with_reducible refine gc 57 rfl ?_); refine gl (some 49) Try.func57 #[.slice A0 l0.length c0, .int .i64 (rd l2_1 x7_2)] rfl ?_; (with_reducible refine (spec_TypeOk.calls k2 _ _ l0 (rd l2_1 x7_2) true _ ?side1 ?side2 A17.out).mono ?_); (case side1 => exact cb HR0.out); (case side2 => exact HC0.out); rintro e w20 ⟨rfl, hb⟩; refine ⟨_, rfl, ?_⟩; replace BK167 := kb BK167 hb; replace HB := hs HB hb; (try clear hb)))
           go_roundg k2
           case measure => have := HJ6.out; have := HK2.out; omega
           case rel => exact ⟨(wrap64 (x7_2 + 1)), (by first | rfl | (simp; done) | (simp [*]; done)), H', ⟨by have := HJ6.out; have := HK2.out; omega⟩, kk BK167, ⟨bl⟩⟩
          ·replace c18 := Bool.eq_false_iff.mpr c18
           subst c18
           replace H := ie H
           obtain rfl := Option.some.inj H; clear H
           obtain ⟨_,_,_,_,_,_⟩ := cf3 BK167
           have p169 : 0 ≤ (x7_2 : Int) := od
           have q169 : x7_2 < (l2_1.length : Int) := od
           obtain ⟨ad169, e169, hx169_0⟩ := Kd.at_int HR2_1.out x7_2 p169 q169
           cases e169
           replace hx169_0 := hc HB hx169_0
           replace p169 := eq_true p169
           replace q169 := eq_true q169
           go_wp2_with (first | ((with_reducible refine gc 57 rfl ?_); refine gl (some 49) Try.func57 #[.slice A0 l0.length c0, .int .i64 (rd l2_1 x7_2)] rfl ?_; (with_reducible refine (spec_TypeOk.calls k2 _ _ l0 (rd l2_1 x7_2) false _ ?side1 ?side2 A17.out).mono ?_); (case side1 => exact cb HR0.out); (case side2 => exact HC0.out); rintro e w22 ⟨rfl, hb⟩; refine ⟨_, rfl, ?_⟩; replace BK167 := kb BK167 hb; replace HB := hs HB hb; (try clear hb)))
           go_ret
           exact fin
         ·rw [if_neg c16] at H
          exact absurd H (by simp)
        ·rw [if_neg c15] at H
         have c15b0 : decide (x7_2 < (l2_1.length : Int)) = false := decide_eq_false c15
         clear c15
         have H' := Aside0.mk H
         clear H
         obtain ⟨_,_,_,_,_,_⟩ := cf3 BK167
         go_wp2
         go_loopg [8] k2 (fun kq v8 w' => ∃ (x8_3 : Int), v8 = .int .i64 x8_3 ∧ Aside0 (spec_ShapeOk.l1 kq l0 x8_3 true l2_1 l2_2 = some r) ∧ Aside0 (kq ≤ k2) ∧ Aside0 (w'.heap[gb167]? = some (.cells #[.bool true, (.slice A2_1 l2_1.length c2_1), (.slice A2_2 l2_2.length c2_2)] 70 (0, 0))) ∧ Aside0 (Below w.heap.size w w'))
         case atStart => exact ⟨(0), (by first | rfl | (simp; done) | (simp [*]; done)), H', ⟨Nat.le_refl _⟩, kk BK167, ⟨bl⟩⟩
         case round =>
          clear H'
          obtain ⟨x8_3, rfl, HA, HK3, BK167, HB⟩ := hrel
          cases gk with
          | zero => exact absurd HA.out (by simp [spec_ShapeOk.l1])
          | succ k3 =>
           have H := HA.out
           clear HA
           simp only [spec_ShapeOk.l1] at H
           by_cases c24 : x8_3 < (l2_2.length : Int)
           ·rw [if_pos c24] at H
            have c24b0 : decide (x8_3 < (l2_2.length : Int)) = true := decide_eq_true c24
            clear c24
            by_cases c25 : 0 ≤ x8_3
            ·rw [if_pos c25] at H
             have c25b0 : decide (0 ≤ x8_3) = true := decide_eq_true c25
             clear c25
             obtain ⟨t172, A26, H⟩ := ob H
             by_cases c27 : t172 = true
             ·subst c27
              replace H := it H
              by_cases c28 : (rd l2_2 x8_3) = 0
              ·rw [if_pos c28] at H
               have c28b0 := beq_iff_eq.mpr c28
               have c28b1 := bne_eq_false_iff_eq.mpr c28
               clear c28
               obtain rfl := Option.some.inj H; clear H
               obtain ⟨_,_,_,_,_,_⟩ := cf3 BK167
               have p171 : 0 ≤ (x8_3 : Int) := od
               have q171 : x8_3 < (l2_2.length : Int) := od
               obtain ⟨ad171, e171, hx171_0⟩ := Kd.at_int HR2_2.out x8_3 p171 q171
               cases e171
               replace hx171_0 := hc HB hx171_0
               replace p171 := eq_true p171
               replace q171 := eq_true q171
               go_wp2_with (first | ((with_reducible refine gc 57 rfl ?_); refine gl (some 64) Try.func57 #[.slice A0 l0.length c0, .int .i64 (rd l2_2 x8_3)] rfl ?_; (with_reducible refine (spec_TypeOk.calls k3 _ _ l0 (rd l2_2 x8_3) true _ ?side1 ?side2 A26.out).mono ?_); (case side1 => exact cb HR0.out); (case side2 => exact HC0.out); rintro e w30 ⟨rfl, hb⟩; refine ⟨_, rfl, ?_⟩; replace BK167 := kb BK167 hb; replace HB := hs HB hb; (try clear hb); obtain ⟨_,_,_,_,_,_⟩ := cf3 BK167; have p173 : 0 ≤ (x8_3 : Int) := od; have q173 : x8_3 < (l2_2.length : Int) := od; obtain ⟨ad173, e173, hx173_0⟩ := Kd.at_int HR2_2.out x8_3 p173 q173; obtain rfl : ad171 = ad173 := (by injection e173); replace hx173_0 := hc HB hx173_0; replace p173 := eq_true p173; replace q173 := eq_true q173))
               go_ret
               exact fin
              ·rw [if_neg c28] at H
               have c28b0 := beq_eq_false_iff_ne.mpr c28
               have c28b1 := bne_iff_ne.mpr c28
               have H' := Aside0.mk H
               clear H
               obtain ⟨_,_,_,_,_,_⟩ := cf3 BK167
               have p171 : 0 ≤ (x8_3 : Int) := od
               have q171 : x8_3 < (l2_2.length : Int) := od
               obtain ⟨ad171, e171, hx171_0⟩ := Kd.at_int HR2_2.out x8_3 p171 q171
               cases e171
               replace hx171_0 := hc HB hx171_0
               replace p171 := eq_true p171
               replace q171 := eq_true q171
               go_wp2_with (first | ((with_reducible refine gc 57 rfl ?_); refine gl (some 64) Try.func57 #[.slice A0 l0.length c0, .int .i64 (rd l2_2 x8_3)] rfl ?_; (with_reducible refine (spec_TypeOk.calls k3 _ _ l0 (rd l2_2 x8_3) true _ ?side1 ?side2 A26.out).mono ?_); (case side1 => exact cb HR0.out); (case side2 => exact HC0.out); rintro e w33 ⟨rfl, hb⟩; refine ⟨_, rfl, ?_⟩; replace BK167 := kb BK167 hb; replace HB := hs HB hb; (try clear hb); obtain ⟨_,_,_,_,_,_⟩ := cf3 BK167; have p173 : 0 ≤ (x8_3 : Int) := od; have q173 : x8_3 < (l2_2.length : Int) := od; obtain ⟨ad173, e173, hx173_0⟩ := Kd.at_int HR2_2.out x8_3 p173 q173; obtain rfl : ad171 = ad173 := (by injection e173); replace hx173_0 := hc HB hx173_0; replace p173 := eq_true p173; replace q173 := eq_true q173))
               go_roundg k3
               case measure => have := HJ6.out; have := HK2.out; have := HK3.out; omega
               case rel => exact ⟨(wrap64 (x8_3 + 1)), (by first | rfl | (simp; done) | (simp [*]; done)), H', ⟨by have := HJ6.out; have := HK2.out; have := HK3.out; omega⟩, kk BK167, ⟨bl⟩⟩
             ·replace c27 := Bool.eq_false_iff.mpr c27
              subst c27
              replace H := ie H
              obtain rfl := Option.some.inj H; clear H
              obtain ⟨_,_,_,_,_,_⟩ := cf3 BK167
              have p171 : 0 ≤ (x8_3 : Int) := od
              have q171 : x8_3 < (l2_2.length : Int) := od
              obtain ⟨ad171, e171, hx171_0⟩ := Kd.at_int HR2_2.out x8_3 p171 q171
              cases e171
              replace hx171_0 := hc HB hx171_0
              replace p171 := eq_true p171
              replace q171 := eq_true q171
              go_wp2_with (first | ((with_reducible refine gc 57 rfl ?_); refine gl (some 64) Try.func57 #[.slice A0 l0.length c0, .int .i64 (rd l2_2 x8_3)] rfl ?_; (with_reducible refine (spec_TypeOk.calls k3 _ _ l0 (rd l2_2 x8_3) false _ ?side1 ?side2 A26.out).mono ?_); (case side1 => exact cb HR0.out); (case side2 => exact HC0.out); rintro e w36 ⟨rfl, hb⟩; refine ⟨_, rfl, ?_⟩; replace BK167 := kb BK167 hb; replace HB := hs HB hb; (try clear hb)))
              go_ret
              exact fin
            ·rw [if_neg c25] at H
             exact absurd H (by simp)
           ·rw [if_neg c24] at H
            have c24b0 : decide (x8_3 < (l2_2.length : Int)) = false := decide_eq_false c24
            clear c24
            obtain rfl := Option.some.inj H; clear H
            obtain ⟨_,_,_,_,_,_⟩ := cf3 BK167
            go_wp2
            go_ret
            exact fin
  ·replace c6 := Bool.eq_false_iff.mpr c6
   subst c6
   replace H := ie H
   by_cases c38 : (l2_1.length : Int) = 0
   ·rw [if_pos c38] at H
    have c38b0 := beq_iff_eq.mpr c38
    have c38b1 := bne_eq_false_iff_eq.mpr c38
    clear c38
    obtain rfl := Option.some.inj H; clear H
    go_enter Try.func36, Try.ntmps36
    go_wp2_with (first | ((with_reducible refine gd 5 rfl ?_); (try (refine gate_guard (by rfl) ?_; dsimp only)); refine bx 5 #[.bool false, .slice A2_1 l2_1.length c2_1, .slice A2_2 l2_2.length c2_2] 70 ?_; intro gb167 hg w39 hbox hb; have BK167 := Aside0.mk hbox; have GW167 := hz HB hg; have GE167 := hz HB hg; replace HB := hs HB hb; clear hb hbox hg) | ((with_reducible refine gc 14 rfl ?_); refine gl (some 10) Try.func14 #[.slice A0 l0.length c0] rfl ?_; (with_reducible refine (spec_ClassesOk.calls k _ _ l0 true _ ?side1 ?side2 A4.out).mono ?_); (case side1 => exact cb HR0.out); (case side2 => exact HC0.out); rintro e w40 ⟨rfl, hb⟩; refine ⟨_, rfl, ?_⟩; replace BK167 := kb BK167 hb; replace HB := hs HB hb; (try clear hb); obtain ⟨_,_,_,_,_,_⟩ := cf3 BK167))
    go_ret
    exact fin
   ·rw [if_neg c38] at H
    have c38b0 := beq_eq_false_iff_ne.mpr c38
    have c38b1 := bne_iff_ne.mpr c38
    have c38b2 : ¬ (l2_1 = []) := fun h_ => c38 (by rw [h_]; rfl)
    obtain rfl := Option.some.inj H; clear H
    go_enter Try.func36, Try.ntmps36
    go_wp2_with (first | ((with_reducible refine gd 5 rfl ?_); (try (refine gate_guard (by rfl) ?_; dsimp only)); refine bx 5 #[.bool false, .slice A2_1 l2_1.length c2_1, .slice A2_2 l2_2.length c2_2] 70 ?_; intro gb167 hg w42 hbox hb; have BK167 := Aside0.mk hbox; have GW167 := hz HB hg; have GE167 := hz HB hg; replace HB := hs HB hb; clear hb hbox hg) | ((with_reducible refine gc 14 rfl ?_); refine gl (some 10) Try.func14 #[.slice A0 l0.length c0] rfl ?_; (with_reducible refine (spec_ClassesOk.calls k _ _ l0 true _ ?side1 ?side2 A4.out).mono ?_); (case side1 => exact cb HR0.out); (case side2 => exact HC0.out); rintro e w43 ⟨rfl, hb⟩; refine ⟨_, rfl, ?_⟩; replace BK167 := kb BK167 hb; replace HB := hs HB hb; (try clear hb); obtain ⟨_,_,_,_,_,_⟩ := cf3 BK167))
    go_ret
    exact fin
 ·replace c5 := Bool.eq_false_iff.mpr c5
  subst c5
  replace H := ie H
  obtain rfl := Option.some.inj H; clear H
  go_enter Try.func36, Try.ntmps36
  go_wp2_with (first | ((with_reducible refine gd 5 rfl ?_); (try (refine gate_guard (by rfl) ?_; dsimp only)); refine bx 5 #[.bool a2_0, .slice A2_1 l2_1.length c2_1, .slice A2_2 l2_2.length c2_2] 70 ?_; intro gb167 hg w45 hbox hb; have BK167 := Aside0.mk hbox; have GW167 := hz HB hg; have GE167 := hz HB hg; replace HB := hs HB hb; clear hb hbox hg) | ((with_reducible refine gc 14 rfl ?_); refine gl (some 10) Try.func14 #[.slice A0 l0.length c0] rfl ?_; (with_reducible refine (spec_ClassesOk.calls k _ _ l0 false _ ?side1 ?side2 A4.out).mono ?_); (case side1 => exact cb HR0.out); (case side2 => exact HC0.out); rintro e w46 ⟨rfl, hb⟩; refine ⟨_, rfl, ?_⟩; replace BK167 := kb BK167 hb; replace HB := hs HB hb; (try clear hb)))
  go_ret
  exact fin
end Go.Proofs.Ytedodaifpekahaa.P

end
section

namespace Go.Proofs.Ytedodaifpekahaa.P
open Go.RowKit Go.Proofs.YtedodaifpekahaaW.PrintWords Go.Proofs.YtedodaifpekahaaW.PrintLast Go.Proofs.YtedodaifpekahaaW.PrintMore
attribute [local go_sem] max2_int min2_int max_two min_two max_three min_three max_four min_four
set_option linter.unusedVariables false
set_option linter.unusedSimpArgs false
set_option maxHeartbeats 8000000 in
set_option maxRecDepth 100000 in
theorem spec_l2Up.calls (k : Nat) (A0 : Option Addr) (c0 : Nat) (l0 : List (S76)) (a1 : Int) (a2 : Int) (r : Bool) (w : World) (hr0 : Kd.C k76 w A0 l0.length l0) (hc0 : l0.length ≤ c0) (h : spec_l2Up.f k l0 a1 a2 = some r) :
  Calls Try.prog 38 #[.slice A0 l0.length c0, .int .i64 a1, .int .i64 a2] w fun e w' => e = .returned (.bool r) ∧ Drawn0 w w' := by
 have HR0 := Aside0.mk hr0
 have HC0 := Aside0.mk hc0
 clear hr0 hc0
 have H : (spec_l2Up.l0 k l0 a1 a2) = some r := h
 clear h
 have H' := Aside0.mk H
 clear H
 go_enter Try.func38, Try.ntmps38
 go_wp2
 go_loopg [1] k (fun kq v1 w' => ∃ (x1_1 : Int), v1 = .int .i64 x1_1 ∧ Aside0 (spec_l2Up.l0 kq l0 x1_1 a2 = some r) ∧ Aside0 (kq ≤ k) ∧ Drawn0 w w')
 case atStart => exact ⟨(a1), (by first | rfl | (simp; done) | (simp [*]; done)), H', ⟨Nat.le_refl _⟩, by repeat (first | exact Drawn0.refl _ | apply Drawn0.step)⟩
 case round =>
  clear H'
  obtain ⟨x1_1, rfl, HA, HK1, ⟨m1, rfl⟩⟩ := hrel
  cases gk with
  | zero => exact absurd HA.out (by simp [spec_l2Up.l0])
  | succ k1 =>
   have H := HA.out
   clear HA
   simp only [spec_l2Up.l0] at H
   by_cases c4 : x1_1 > a2
   ·rw [if_pos c4] at H
    have c4b0 : decide (a2 < x1_1) = true := decide_eq_true c4
    clear c4
    by_cases c5 : 0 ≤ x1_1
    ·rw [if_pos c5] at H
     have c5b0 : decide (0 ≤ x1_1) = true := decide_eq_true c5
     clear c5
     by_cases c6 : x1_1 < (l0.length : Int)
     ·rw [if_pos c6] at H
      have c6b0 : decide (x1_1 < (l0.length : Int)) = true := decide_eq_true c6
      clear c6
      have H' := Aside0.mk H
      clear H
      have p174 : 0 ≤ (x1_1 : Int) := od
      have q174 : x1_1 < (l0.length : Int) := od
      obtain ⟨ad174, A174_1, c174_1, e174, hx174_0, hx174_1, hl174_1, hi174_1⟩ := at_T76 HR0.out x1_1 p174 q174
      cases e174
      have HR174_1 := Aside0.mk hi174_1
      have HC174_1 := Aside0.mk hl174_1
      clear hi174_1 hl174_1
      replace p174 := eq_true p174
      replace q174 := eq_true q174
      go_wp2
      go_roundg k1
      case measure => have := HK1.out; omega
      case rel => exact ⟨((rd_T76 l0 x1_1).f0), (by first | rfl | (simp; done) | (simp [*]; done)), H', ⟨by have := HK1.out; omega⟩, by repeat (first | exact Drawn0.refl _ | apply Drawn0.step)⟩
     ·rw [if_neg c6] at H
      exact absurd H (by simp)
    ·rw [if_neg c5] at H
     exact absurd H (by simp)
   ·rw [if_neg c4] at H
    have c4b0 : decide (a2 < x1_1) = false := decide_eq_false c4
    clear c4
    obtain rfl := Option.some.inj H; clear H
    go_wp2
    go_ret
    exact ⟨by first | rfl | (simp; done) | (simp [*]; done), by repeat (first | exact Drawn0.refl _ | apply Drawn0.step)⟩
end Go.Proofs.Ytedodaifpekahaa.P

end
section

namespace Go.Proofs.Ytedodaifpekahaa.P
open Go.RowKit Go.Proofs.YtedodaifpekahaaW.PrintWords Go.Proofs.YtedodaifpekahaaW.PrintLast Go.Proofs.YtedodaifpekahaaW.PrintMore
attribute [local go_sem] max2_int min2_int max_two min_two max_three min_three max_four min_four
set_option linter.unusedVariables false
set_option linter.unusedSimpArgs false
set_option maxHeartbeats 8000000 in
set_option maxRecDepth 100000 in
theorem spec_l3Catch.calls (k : Nat) (A0_0 : Option Addr) (c0_0 : Nat) (l0_0 : List (S76)) (A0_1 : Option Addr) (c0_1 : Nat) (l0_1 : List (S46)) (a1_0 : Int) (a1_1 : Int) (A1_2 : Option Addr) (c1_2 : Nat) (l1_2 : List Int) (a1_3 : Int) (a1_4 : Int) (A1_5 : Option Addr) (c1_5 : Nat) (l1_5 : List (S67)) (A1_6 : Option Addr) (c1_6 : Nat) (l1_6 : List (S70)) (A1_7 : Option Addr) (c1_7 : Nat) (l1_7 : List (S73)) (a2_0 : Int) (a2_1 : Int) (a2_2 : Int) (a2_3 : Int) (r : Bool) (w : World) (hr0_0 : Kd.C k76 w A0_0 l0_0.length l0_0) (hc0_0 : l0_0.length ≤ c0_0) (hr0_1 : Kd.C k46 w A0_1 l0_1.length l0_1) (hc0_1 : l0_1.length ≤ c0_1) (hr1_2 : Kd.C (Kd.int .i64) w A1_2 l1_2.length l1_2) (hc1_2 : l1_2.length ≤ c1_2) (hr1_5 : Kd.C k67 w A1_5 l1_5.length l1_5) (hc1_5 : l1_5.length ≤ c1_5) (hr1_6 : Kd.C k70 w A1_6 l1_6.length l1_6) (hc1_6 : l1_6.length ≤ c1_6) (hr1_7 : Kd.C k73 w A1_7 l1_7.length l1_7) (hc1_7 : l1_7.length ≤ c1_7) (h : spec_l3Catch.f k l0_0 l0_1 a1_0 a1_1 l1_2 a1_3 a1_4 l1_5 l1_6 l1_7 a2_0 a2_1 a2_2 a2_3 = some r) :
  Calls Try.prog 37 #[.agg #[.slice A0_0 l0_0.length c0_0, .slice A0_1 l0_1.length c0_1], .agg #[.int .i64 a1_0, .int .i64 a1_1, .slice A1_2 l1_2.length c1_2, .int .i64 a1_3, .int .i64 a1_4, .slice A1_5 l1_5.length c1_5, .slice A1_6 l1_6.length c1_6, .slice A1_7 l1_7.length c1_7], .agg #[.int .i64 a2_0, .int .i64 a2_1, .int .i64 a2_2, .int .i64 a2_3]] w fun e w' => e = .returned (.bool r) ∧ Below w.heap.size w w' := by
 have hu31 := Try.underlying31
 have hu46 := Try.underlying46
 have hu73 := Try.underlying73
 have HR0_0 := Aside0.mk hr0_0
 have HC0_0 := Aside0.mk hc0_0
 clear hr0_0 hc0_0
 have HR0_1 := Aside0.mk hr0_1
 have HC0_1 := Aside0.mk hc0_1
 clear hr0_1 hc0_1
 have HR1_2 := Aside0.mk hr1_2
 have HC1_2 := Aside0.mk hc1_2
 clear hr1_2 hc1_2
 have HR1_5 := Aside0.mk hr1_5
 have HC1_5 := Aside0.mk hc1_5
 clear hr1_5 hc1_5
 have HR1_6 := Aside0.mk hr1_6
 have HC1_6 := Aside0.mk hc1_6
 clear hr1_6 hc1_6
 have HR1_7 := Aside0.mk hr1_7
 have HC1_7 := Aside0.mk hc1_7
 clear hr1_7 hc1_7
 have HB := Aside0.mk (Below.refl w.heap.size w)
 have H : ((spec_l6In.f a2_0 0 (wrap64 ((l1_5.length : Int) - 1))).bind fun t178 => (if t178 = true then ((spec_l6In.f a2_1 (wrap64 (a2_0 + 1)) (l1_5.length : Int)).bind fun t179 => (if t179 = true then ((spec_l6In.f a2_2 0 (wrap64 ((l1_5.length : Int) - 1))).bind fun t180 => (if t180 = true then ((spec_l6In.f a2_3 0 (wrap64 ((l0_0.length : Int) - 1))).bind fun t181 => (if t181 = true then ((spec_l2Up.f k l0_0 a2_3 1).bind fun t182 => (some t182)) else (some false))) else (some false))) else (some false))) else (some false))) = some r := h
 clear h
 obtain ⟨t178, A4, H⟩ := ob H
 by_cases c5 : t178 = true
 ·subst c5
  replace H := it H
  obtain ⟨t179, A6, H⟩ := ob H
  by_cases c7 : t179 = true
  ·subst c7
   replace H := it H
   obtain ⟨t180, A8, H⟩ := ob H
   by_cases c9 : t180 = true
   ·subst c9
    replace H := it H
    obtain ⟨t181, A10, H⟩ := ob H
    by_cases c11 : t181 = true
    ·subst c11
     replace H := it H
     obtain ⟨t182, A12, H⟩ := ob H
     obtain rfl := Option.some.inj H; clear H
     go_enter Try.func37, Try.ntmps37
     go_wp2_with (first | ((with_reducible refine gd 3 rfl ?_); (try (refine gate_guard (by rfl) ?_; dsimp only)); refine bx 3 #[.slice A0_0 l0_0.length c0_0, .slice A0_1 l0_1.length c0_1] 31 ?_; intro gb175 hg w13 hbox hb; have BK175 := Aside0.mk hbox; have GW175 := hz HB hg; have GE175 := hz HB hg; replace HB := hs HB hb; clear hb hbox hg) | ((with_reducible refine gd 4 rfl ?_); (try (refine gate_guard (by rfl) ?_; dsimp only)); refine bx 4 #[.int .i64 a1_0, .int .i64 a1_1, .slice A1_2 l1_2.length c1_2, .int .i64 a1_3, .int .i64 a1_4, .slice A1_5 l1_5.length c1_5, .slice A1_6 l1_6.length c1_6, .slice A1_7 l1_7.length c1_7] 46 ?_; intro gb176 hg w14 hbox hb; have BK176 := Aside0.mk hbox; have GW176 := hz HB hg; have GE176 := hz HB hg; have NB175_176 := nl BK175 hg; have NB176_175 := ng BK175 hg; replace BK175 := kb BK175 hb; replace HB := hs HB hb; clear hb hbox hg) | ((with_reducible refine gd 5 rfl ?_); (try (refine gate_guard (by rfl) ?_; dsimp only)); refine bx 5 #[.int .i64 a2_0, .int .i64 a2_1, .int .i64 a2_2, .int .i64 a2_3] 73 ?_; intro gb177 hg w15 hbox hb; have BK177 := Aside0.mk hbox; have GW177 := hz HB hg; have GE177 := hz HB hg; have NB175_177 := nl BK175 hg; have NB177_175 := ng BK175 hg; have NB176_177 := nl BK176 hg; have NB177_176 := ng BK176 hg; replace BK175 := kb BK175 hb; replace BK176 := kb BK176 hb; replace HB := hs HB hb; clear hb hbox hg; have hnb16 := NB177_175.out; have hnc16 := NB175_177.out; have hnb17 := NB177_176.out; have hnc17 := NB176_177.out; obtain ⟨_,_,_,_,_,_,_,_⟩ := cf4 BK177; have hnb19 := NB176_175.out; have hnc19 := NB175_176.out; obtain ⟨_,_,_,_,_,_,_,_,_,_,_,_,_,_,_,_⟩ := cf8 BK176) | ((with_reducible refine gc 15 rfl ?_); refine gl (some 13) Try.func15 #[.int .i64 a2_0, .int .i64 0, .int .i64 (wrap64 ((l1_5.length : Int) - 1))] rfl ?_; (with_reducible refine (spec_l6In.calls a2_0 0 (wrap64 ((l1_5.length : Int) - 1)) true _ A4.out).mono ?_); rintro e w' ⟨rfl, ⟨nd, rfl⟩⟩; refine ⟨_, rfl, ?_⟩) | (go_at_call 15; (with_reducible refine (spec_l6In.calls a2_1 (wrap64 (a2_0 + 1)) (l1_5.length : Int) true _ A6.out).mono ?_); rintro e w' ⟨rfl, ⟨nd, rfl⟩⟩) | (go_at_call 15; (with_reducible refine (spec_l6In.calls a2_2 0 (wrap64 ((l1_5.length : Int) - 1)) true _ A8.out).mono ?_); rintro e w' ⟨rfl, ⟨nd, rfl⟩⟩; obtain ⟨_,_,_,_⟩ := cf2 BK175) | (go_at_call 15; (with_reducible refine (spec_l6In.calls a2_3 0 (wrap64 ((l0_0.length : Int) - 1)) true _ A10.out).mono ?_); rintro e w' ⟨rfl, ⟨nd, rfl⟩⟩) | (go_at_call 38; (with_reducible refine (spec_l2Up.calls k _ _ l0_0 a2_3 1 t182 _ ?side1 ?side2 A12.out).mono ?_); (case side1 => exact cb HR0_0.out); (case side2 => exact HC0_0.out); rintro e w' ⟨rfl, ⟨nd, rfl⟩⟩))
     go_ret
     exact fin
    ·replace c11 := Bool.eq_false_iff.mpr c11
     subst c11
     replace H := ie H
     obtain rfl := Option.some.inj H; clear H
     go_enter Try.func37, Try.ntmps37
     go_wp2_with (first | ((with_reducible refine gd 3 rfl ?_); (try (refine gate_guard (by rfl) ?_; dsimp only)); refine bx 3 #[.slice A0_0 l0_0.length c0_0, .slice A0_1 l0_1.length c0_1] 31 ?_; intro gb175 hg w22 hbox hb; have BK175 := Aside0.mk hbox; have GW175 := hz HB hg; have GE175 := hz HB hg; replace HB := hs HB hb; clear hb hbox hg) | ((with_reducible refine gd 4 rfl ?_); (try (refine gate_guard (by rfl) ?_; dsimp only)); refine bx 4 #[.int .i64 a1_0, .int .i64 a1_1, .slice A1_2 l1_2.length c1_2, .int .i64 a1_3, .int .i64 a1_4, .slice A1_5 l1_5.length c1_5, .slice A1_6 l1_6.length c1_6, .slice A1_7 l1_7.length c1_7] 46 ?_; intro gb176 hg w23 hbox hb; have BK176 := Aside0.mk hbox; have GW176 := hz HB hg; have GE176 := hz HB hg; have NB175_176 := nl BK175 hg; have NB176_175 := ng BK175 hg; replace BK175 := kb BK175 hb; replace HB := hs HB hb; clear hb hbox hg) | ((with_reducible refine gd 5 rfl ?_); (try (refine gate_guard (by rfl) ?_; dsimp only)); refine bx 5 #[.int .i64 a2_0, .int .i64 a2_1, .int .i64 a2_2, .int .i64 a2_3] 73 ?_; intro gb177 hg w24 hbox hb; have BK177 := Aside0.mk hbox; have GW177 := hz HB hg; have GE177 := hz HB hg; have NB175_177 := nl BK175 hg; have NB177_175 := ng BK175 hg; have NB176_177 := nl BK176 hg; have NB177_176 := ng BK176 hg; replace BK175 := kb BK175 hb; replace BK176 := kb BK176 hb; replace HB := hs HB hb; clear hb hbox hg; have hnb25 := NB177_175.out; have hnc25 := NB175_177.out; have hnb26 := NB177_176.out; have hnc26 := NB176_177.out; obtain ⟨_,_,_,_,_,_,_,_⟩ := cf4 BK177; have hnb28 := NB176_175.out; have hnc28 := NB175_176.out; obtain ⟨_,_,_,_,_,_,_,_,_,_,_,_,_,_,_,_⟩ := cf8 BK176) | ((with_reducible refine gc 15 rfl ?_); refine gl (some 13) Try.func15 #[.int .i64 a2_0, .int .i64 0, .int .i64 (wrap64 ((l1_5.length : Int) - 1))] rfl ?_; (with_reducible refine (spec_l6In.calls a2_0 0 (wrap64 ((l1_5.length : Int) - 1)) true _ A4.out).mono ?_); rintro e w' ⟨rfl, ⟨nd, rfl⟩⟩; refine ⟨_, rfl, ?_⟩) | (go_at_call 15; (with_reducible refine (spec_l6In.calls a2_1 (wrap64 (a2_0 + 1)) (l1_5.length : Int) true _ A6.out).mono ?_); rintro e w' ⟨rfl, ⟨nd, rfl⟩⟩) | (go_at_call 15; (with_reducible refine (spec_l6In.calls a2_2 0 (wrap64 ((l1_5.length : Int) - 1)) true _ A8.out).mono ?_); rintro e w' ⟨rfl, ⟨nd, rfl⟩⟩; obtain ⟨_,_,_,_⟩ := cf2 BK175) | (go_at_call 15; (with_reducible refine (spec_l6In.calls a2_3 0 (wrap64 ((l0_0.length : Int) - 1)) false _ A10.out).mono ?_); rintro e w' ⟨rfl, ⟨nd, rfl⟩⟩))
     go_ret
     exact fin
   ·replace c9 := Bool.eq_false_iff.mpr c9
    subst c9
    replace H := ie H
    obtain rfl := Option.some.inj H; clear H
    go_enter Try.func37, Try.ntmps37
    go_wp2_with (first | ((with_reducible refine gc 15 rfl ?_); refine gl (some 13) Try.func15 #[.int .i64 a2_0, .int .i64 0, .int .i64 (wrap64 ((l1_5.length : Int) - 1))] rfl ?_; (with_reducible refine (spec_l6In.calls a2_0 0 (wrap64 ((l1_5.length : Int) - 1)) true _ A4.out).mono ?_); rintro e w' ⟨rfl, ⟨nd, rfl⟩⟩; refine ⟨_, rfl, ?_⟩) | (go_at_call 15; (with_reducible refine (spec_l6In.calls a2_1 (wrap64 (a2_0 + 1)) (l1_5.length : Int) true _ A6.out).mono ?_); rintro e w' ⟨rfl, ⟨nd, rfl⟩⟩) | (go_at_call 15; (with_reducible refine (spec_l6In.calls a2_2 0 (wrap64 ((l1_5.length : Int) - 1)) false _ A8.out).mono ?_); rintro e w' ⟨rfl, ⟨nd, rfl⟩⟩))
    go_ret
    exact fin
  ·replace c7 := Bool.eq_false_iff.mpr c7
   subst c7
   replace H := ie H
   obtain rfl := Option.some.inj H; clear H
   go_enter Try.func37, Try.ntmps37
   go_wp2_with (first | ((with_reducible refine gc 15 rfl ?_); refine gl (some 13) Try.func15 #[.int .i64 a2_0, .int .i64 0, .int .i64 (wrap64 ((l1_5.length : Int) - 1))] rfl ?_; (with_reducible refine (spec_l6In.calls a2_0 0 (wrap64 ((l1_5.length : Int) - 1)) true _ A4.out).mono ?_); rintro e w' ⟨rfl, ⟨nd, rfl⟩⟩; refine ⟨_, rfl, ?_⟩) | (go_at_call 15; (with_reducible refine (spec_l6In.calls a2_1 (wrap64 (a2_0 + 1)) (l1_5.length : Int) false _ A6.out).mono ?_); rintro e w' ⟨rfl, ⟨nd, rfl⟩⟩))
   go_ret
   exact fin
 ·replace c5 := Bool.eq_false_iff.mpr c5
  subst c5
  replace H := ie H
  obtain rfl := Option.some.inj H; clear H
  go_enter Try.func37, Try.ntmps37
  go_wp2_with (first | ((with_reducible refine gc 15 rfl ?_); refine gl (some 13) Try.func15 #[.int .i64 a2_0, .int .i64 0, .int .i64 (wrap64 ((l1_5.length : Int) - 1))] rfl ?_; (with_reducible refine (spec_l6In.calls a2_0 0 (wrap64 ((l1_5.length : Int) - 1)) false _ A4.out).mono ?_); rintro e w' ⟨rfl, ⟨nd, rfl⟩⟩; refine ⟨_, rfl, ?_⟩))
  go_ret
  exact fin
end Go.Proofs.Ytedodaifpekahaa.P

end
