/- A part of the claim FnExactUnitFind: texts of this session and texts that its program printed out of the translation, joined. -/
import Derived.Test.YtedodaifpekahaaCFnExactUnitFind21
import Derived.Test.YtedodaifpekahaaCFnExactUnitFind22
import Derived.Test.YtedodaifpekahaaCFnExactUnitFind23
import Derived.Test.YtedodaifpekahaaCFnExactUnitFind24
import Derived.Test.YtedodaifpekahaaCFnExactUnitFind0
import Derived.Test.YtedodaifpekahaaCFnExactUnitFind1
import Derived.Test.YtedodaifpekahaaCFnExactUnitFind2
import Derived.Test.YtedodaifpekahaaCFnExactUnitFind3
import Derived.Test.YtedodaifpekahaaCFnExactUnitFind4
import Derived.Test.YtedodaifpekahaaCFnExactUnitFind5
import Derived.Test.YtedodaifpekahaaCFnExactUnitFind6
import Derived.Test.YtedodaifpekahaaCFnExactUnitFind7
import Derived.Test.YtedodaifpekahaaCFnExactUnitFind8
import Derived.Test.YtedodaifpekahaaCFnExactUnitFind9
import Derived.Test.YtedodaifpekahaaCFnExactUnitFind10
import Derived.Test.YtedodaifpekahaaCFnExactUnitFind11
import Derived.Test.YtedodaifpekahaaCFnExactUnitFind12
import Derived.Test.YtedodaifpekahaaCFnExactUnitFind13
import Derived.Test.YtedodaifpekahaaCFnExactUnitFind14
import Derived.Test.YtedodaifpekahaaCFnExactUnitFind15
import Derived.Test.YtedodaifpekahaaCFnExactUnitFind16
import Derived.Test.YtedodaifpekahaaCFnExactUnitFind17
import Derived.Test.YtedodaifpekahaaCFnExactUnitFind18
import Derived.Test.YtedodaifpekahaaCFnExactUnitFind19
import Derived.Test.YtedodaifpekahaaCFnExactUnitFind20
section

namespace Go.Proofs.Ytedodaifpekahaa.P
open Go.RowKit Go.Proofs.YtedodaifpekahaaW.PrintWords Go.Proofs.YtedodaifpekahaaW.PrintLast Go.Proofs.YtedodaifpekahaaW.PrintMore
attribute [local go_sem] max2_int min2_int max_two min_two max_three min_three max_four min_four
set_option linter.unusedVariables false
set_option linter.unusedSimpArgs false
def spec_l3Method.T6 : Bool × List (List Nat × List Nat) := (true, [([], []), ([], []), ([], []), ([2], [2]), ([], []), ([3, 4], [3, 4]), ([5], [5]), ([0, 1, 6], [0, 1, 6]), ([7], [7]), ([8, 7], [8]), ([9], [9]), ([10, 9], [9, 10]), ([9], [9]), ([12, 9], [9, 12]), ([9], [9]), ([14, 9], [9, 14]), ([9], [9]), ([15, 16, 9], [9, 15, 16]), ([17, 9], [9, 17]), ([11, 13, 18, 9, 9], [9, 11, 13, 18]), ([19, 9], [9, 19]), ([9, 20], [9, 20])])
def spec_l3Method.B6 : List Nat := [0, 0, 0, 4, 0, 28, 60, 127, 255, 511, 1023, 2047, 1023, 5119, 1023, 17407, 1023, 115711, 246783, 524287, 1048575, 2097151]
theorem spec_l3Method.tab6 : rtab .any (opsOf Try.f16 6) = spec_l3Method.T6 := by kernel_rfl
theorem spec_l3Method.bits6 : waitsOk spec_l3Method.T6.2 spec_l3Method.B6 = true := by kernel_rfl
def spec_l3Method.T11 : Bool × List (List Nat × List Nat) := (true, [([], []), ([], []), ([], []), ([2], [2]), ([], []), ([3, 4], [3, 4]), ([5], [5]), ([0, 1, 6], [0, 1, 6]), ([7], [7])])
def spec_l3Method.B11 : List Nat := [0, 0, 0, 4, 0, 28, 60, 127, 255]
theorem spec_l3Method.tab11 : rtab .any (opsOf Try.f16 11) = spec_l3Method.T11 := by kernel_rfl
theorem spec_l3Method.bits11 : waitsOk spec_l3Method.T11.2 spec_l3Method.B11 = true := by kernel_rfl
set_option maxHeartbeats 8000000 in
set_option maxRecDepth 100000 in
theorem spec_l3Method.calls (k : Nat) (A0_0 : Option Addr) (c0_0 : Nat) (l0_0 : List (S76)) (A0_1 : Option Addr) (c0_1 : Nat) (l0_1 : List (S46)) (a1_0 : Int) (a1_1 : Int) (A1_2 : Option Addr) (c1_2 : Nat) (l1_2 : List Int) (a1_3 : Int) (a1_4 : Int) (A1_5 : Option Addr) (c1_5 : Nat) (l1_5 : List (S67)) (A1_6 : Option Addr) (c1_6 : Nat) (l1_6 : List (S70)) (A1_7 : Option Addr) (c1_7 : Nat) (l1_7 : List (S73)) (r : Bool) (w : World) (hr0_0 : Kd.C k76 w A0_0 l0_0.length l0_0) (hc0_0 : l0_0.length ≤ c0_0) (hr0_1 : Kd.C k46 w A0_1 l0_1.length l0_1) (hc0_1 : l0_1.length ≤ c0_1) (hr1_2 : Kd.C (Kd.int .i64) w A1_2 l1_2.length l1_2) (hc1_2 : l1_2.length ≤ c1_2) (hr1_5 : Kd.C k67 w A1_5 l1_5.length l1_5) (hc1_5 : l1_5.length ≤ c1_5) (hr1_6 : Kd.C k70 w A1_6 l1_6.length l1_6) (hc1_6 : l1_6.length ≤ c1_6) (hr1_7 : Kd.C k73 w A1_7 l1_7.length l1_7) (hc1_7 : l1_7.length ≤ c1_7) (h : spec_l3Method.f k l0_0 l0_1 a1_0 a1_1 l1_2 a1_3 a1_4 l1_5 l1_6 l1_7 = some r) :
  Calls Try.prog 16 #[.agg #[.slice A0_0 l0_0.length c0_0, .slice A0_1 l0_1.length c0_1], .agg #[.int .i64 a1_0, .int .i64 a1_1, .slice A1_2 l1_2.length c1_2, .int .i64 a1_3, .int .i64 a1_4, .slice A1_5 l1_5.length c1_5, .slice A1_6 l1_6.length c1_6, .slice A1_7 l1_7.length c1_7]] w fun e w' => e = .returned (.bool r) ∧ Below w.heap.size w w' := by
 have hu31 := Try.underlying31
 have hu46 := Try.underlying46
 have hu67 := Try.underlying67
 have hu70 := Try.underlying70
 have hu73 := Try.underlying73
 have HR0_0 := Aside0.mk hr0_0
 have HC0_0 := Aside0.mk hc0_0
 clear hr0_0 hc0_0
 have HR0_1 := Aside0.mk hr0_1
 have HC0_1 := Aside0.mk hc0_1
 clear hr0_1 hc0_1
 have HR1_2 := Aside0.mk hr1_2
 have HC1_2 := Aside0.mk hc1_2
 clear hr1_2 hc1_2
 have HR1_5 := Aside0.mk hr1_5
 have HC1_5 := Aside0.mk hc1_5
 clear hr1_5 hc1_5
 have HR1_6 := Aside0.mk hr1_6
 have HC1_6 := Aside0.mk hc1_6
 clear hr1_6 hc1_6
 have HR1_7 := Aside0.mk hr1_7
 have HC1_7 := Aside0.mk hc1_7
 clear hr1_7 hc1_7
 have HB := Aside0.mk (Below.refl w.heap.size w)
 have H : ((spec_l3Head.f k l0_0 l0_1 a1_0 a1_1 l1_2 a1_3 a1_4 l1_5 l1_6 l1_7).bind fun t185 => (if t185 = true then ((spec_l6In.f (l1_5.length : Int) 1 12).bind fun t186 => (if t186 = true then (if (l1_6.length : Int) = (l1_5.length : Int) then (spec_l3Method.j0 k (decide ((l1_7.length : Int) > 2)) l0_0 l0_1 a1_0 a1_1 l1_2 a1_3 a1_4 l1_5 l1_6 l1_7) else (spec_l3Method.j0 k true l0_0 l0_1 a1_0 a1_1 l1_2 a1_3 a1_4 l1_5 l1_6 l1_7)) else (spec_l3Method.j0 k true l0_0 l0_1 a1_0 a1_1 l1_2 a1_3 a1_4 l1_5 l1_6 l1_7))) else (spec_l3Method.j0 k true l0_0 l0_1 a1_0 a1_1 l1_2 a1_3 a1_4 l1_5 l1_6 l1_7))) = some r := h
 clear h
 have HC3 := Aside0.mk H
 clear H
 go_enter Try.func16, Try.ntmps16
 go_upto_region 1 with (first | ((with_reducible refine gd 2 rfl ?_); (try (refine gate_guard (by rfl) ?_; dsimp only)); refine bx 2 #[.slice A0_0 l0_0.length c0_0, .slice A0_1 l0_1.length c0_1] 31 ?_; intro gb183 hg w4 hbox hb; have BK183 := Aside0.mk hbox; have GW183 := hz HB hg; have GE183 := hz HB hg; replace HB := hs HB hb; clear hb hbox hg) | ((with_reducible refine gd 3 rfl ?_); (try (refine gate_guard (by rfl) ?_; dsimp only)); refine bx 3 #[.int .i64 a1_0, .int .i64 a1_1, .slice A1_2 l1_2.length c1_2, .int .i64 a1_3, .int .i64 a1_4, .slice A1_5 l1_5.length c1_5, .slice A1_6 l1_6.length c1_6, .slice A1_7 l1_7.length c1_7] 46 ?_; intro gb184 hg w5 hbox hb; have BK184 := Aside0.mk hbox; have GW184 := hz HB hg; have GE184 := hz HB hg; have NB183_184 := nl BK183 hg; have NB184_183 := ng BK183 hg; replace BK183 := kb BK183 hb; replace HB := hs HB hb; clear hb hbox hg))
 (try simp only [Act.put, List.setIfInBounds_toArray, List.set_cons_zero, List.set_cons_succ])
 go_cut [32] (fun v32 wc => ∃ (kq : Nat) (x32_2 : Bool), v32 = .bool x32_2 ∧ Aside0 (spec_l3Method.j0 kq x32_2 l0_0 l0_1 a1_0 a1_1 l1_2 a1_3 a1_4 l1_5 l1_6 l1_7 = some r) ∧ Aside0 (kq ≤ k) ∧ Aside0 (wc.heap[gb183]? = some (.cells #[(.slice A0_0 l0_0.length c0_0), (.slice A0_1 l0_1.length c0_1)] 31 (0, 0))) ∧ Aside0 (wc.heap[gb184]? = some (.cells #[.int .i64 a1_0, .int .i64 a1_1, (.slice A1_2 l1_2.length c1_2), .int .i64 a1_3, .int .i64 a1_4, (.slice A1_5 l1_5.length c1_5), (.slice A1_6 l1_6.length c1_6), (.slice A1_7 l1_7.length c1_7)] 46 (0, 0))) ∧ Aside0 (Below w.heap.size w wc))
 case first =>
  have H := HC3.out
  clear HC3
  obtain ⟨t185, A6, H⟩ := ob H
  by_cases c7 : t185 = true
  ·subst c7
   replace H := it H
   obtain ⟨t186, A8, H⟩ := ob H
   by_cases c9 : t186 = true
   ·subst c9
    replace H := it H
    by_cases c10 : (l1_6.length : Int) = (l1_5.length : Int)
    ·rw [if_pos c10] at H
     have c10b0 := beq_iff_eq.mpr c10
     have c10b1 := bne_eq_false_iff_eq.mpr c10
     have c10b2 : (l1_6.length == l1_5.length) = true := by first | simpa using c10 | (simp at c10 ⊢; omega)
     clear c10
     (first | rw [c10b0] | (simp only [i64_w, i32_w]; rw [c10b0]) | skip)
     have H' := Aside0.mk H
     clear H
     have hnb11 := NB183_184.out
     have hnc11 := NB184_183.out
     obtain ⟨_,_,_,_⟩ := cf2 BK183
     obtain ⟨_,_,_,_,_,_,_,_,_,_,_,_,_,_,_,_⟩ := cf8 BK184
     go_wp2_with (first | ((with_reducible refine gc 34 rfl ?_); refine gl (some 9) Try.func34 #[.agg #[.slice A0_0 l0_0.length c0_0, .slice A0_1 l0_1.length c0_1], .agg #[.int .i64 a1_0, .int .i64 a1_1, .slice A1_2 l1_2.length c1_2, .int .i64 a1_3, .int .i64 a1_4, .slice A1_5 l1_5.length c1_5, .slice A1_6 l1_6.length c1_6, .slice A1_7 l1_7.length c1_7]] rfl ?_; (with_reducible refine (spec_l3Head.calls k _ _ l0_0 _ _ l0_1 a1_0 a1_1 _ _ l1_2 a1_3 a1_4 _ _ l1_5 _ _ l1_6 _ _ l1_7 true _ ?side1 ?side2 ?side3 ?side4 ?side5 ?side6 ?side7 ?side8 ?side9 ?side10 ?side11 ?side12 A6.out).mono ?_); (case side1 => exact cb HR0_0.out); (case side2 => exact HC0_0.out); (case side3 => exact cb HR0_1.out); (case side4 => exact HC0_1.out); (case side5 => exact cb HR1_2.out); (case side6 => exact HC1_2.out); (case side7 => exact cb HR1_5.out); (case side8 => exact HC1_5.out); (case side9 => exact cb HR1_6.out); (case side10 => exact HC1_6.out); (case side11 => exact cb HR1_7.out); (case side12 => exact HC1_7.out); rintro e w14 ⟨rfl, hb⟩; refine ⟨_, rfl, ?_⟩; replace BK183 := kb BK183 hb; replace BK184 := kb BK184 hb; replace HB := hs HB hb; (try clear hb); obtain ⟨_,_,_,_,_,_,_,_,_,_,_,_,_,_,_,_⟩ := cf8 BK184) | (go_at_call 15; (with_reducible refine (spec_l6In.calls (l1_5.length : Int) 1 12 true _ A8.out).mono ?_); rintro e w' ⟨rfl, ⟨nd, rfl⟩⟩))
     go_meet
     case rel => exact ⟨_, (decide ((l1_7.length : Int) > 2)), (by first | rfl | (simp; done) | (simp [*]; done)), H', ⟨by first | omega | exact Nat.le_refl _⟩, kk BK183, kk BK184, ⟨bl⟩⟩
    ·rw [if_neg c10] at H
     have c10b0 := beq_eq_false_iff_ne.mpr c10
     have c10b1 := bne_iff_ne.mpr c10
     have c10b2 : (l1_6.length == l1_5.length) = false := by first | simpa using c10 | (simp at c10 ⊢; omega)
     (first | rw [c10b0] | (simp only [i64_w, i32_w]; rw [c10b0]) | skip)
     have H' := Aside0.mk H
     clear H
     have hnb16 := NB183_184.out
     have hnc16 := NB184_183.out
     obtain ⟨_,_,_,_⟩ := cf2 BK183
     obtain ⟨_,_,_,_,_,_,_,_,_,_,_,_,_,_,_,_⟩ := cf8 BK184
     go_wp2_with (first | ((with_reducible refine gc 34 rfl ?_); refine gl (some 9) Try.func34 #[.agg #[.slice A0_0 l0_0.length c0_0, .slice A0_1 l0_1.length c0_1], .agg #[.int .i64 a1_0, .int .i64 a1_1, .slice A1_2 l1_2.length c1_2, .int .i64 a1_3, .int .i64 a1_4, .slice A1_5 l1_5.length c1_5, .slice A1_6 l1_6.length c1_6, .slice A1_7 l1_7.length c1_7]] rfl ?_; (with_reducible refine (spec_l3Head.calls k _ _ l0_0 _ _ l0_1 a1_0 a1_1 _ _ l1_2 a1_3 a1_4 _ _ l1_5 _ _ l1_6 _ _ l1_7 true _ ?side1 ?side2 ?side3 ?side4 ?side5 ?side6 ?side7 ?side8 ?side9 ?side10 ?side11 ?side12 A6.out).mono ?_); (case side1 => exact cb HR0_0.out); (case side2 => exact HC0_0.out); (case side3 => exact cb HR0_1.out); (case side4 => exact HC0_1.out); (case side5 => exact cb HR1_2.out); (case side6 => exact HC1_2.out); (case side7 => exact cb HR1_5.out); (case side8 => exact HC1_5.out); (case side9 => exact cb HR1_6.out); (case side10 => exact HC1_6.out); (case side11 => exact cb HR1_7.out); (case side12 => exact HC1_7.out); rintro e w19 ⟨rfl, hb⟩; refine ⟨_, rfl, ?_⟩; replace BK183 := kb BK183 hb; replace BK184 := kb BK184 hb; replace HB := hs HB hb; (try clear hb); obtain ⟨_,_,_,_,_,_,_,_,_,_,_,_,_,_,_,_⟩ := cf8 BK184) | (go_at_call 15; (with_reducible refine (spec_l6In.calls (l1_5.length : Int) 1 12 true _ A8.out).mono ?_); rintro e w' ⟨rfl, ⟨nd, rfl⟩⟩))
     go_meet
     case rel => exact ⟨_, (true), (by first | rfl | (simp; done) | (simp [*]; done)), H', ⟨by first | omega | exact Nat.le_refl _⟩, kk BK183, kk BK184, ⟨bl⟩⟩
   ·replace c9 := Bool.eq_false_iff.mpr c9
    subst c9
    replace H := ie H
    have H' := Aside0.mk H
    clear H
    have hnb21 := NB183_184.out
    have hnc21 := NB184_183.out
    obtain ⟨_,_,_,_⟩ := cf2 BK183
    obtain ⟨_,_,_,_,_,_,_,_,_,_,_,_,_,_,_,_⟩ := cf8 BK184
    go_wp2_with (first | ((with_reducible refine gc 34 rfl ?_); refine gl (some 9) Try.func34 #[.agg #[.slice A0_0 l0_0.length c0_0, .slice A0_1 l0_1.length c0_1], .agg #[.int .i64 a1_0, .int .i64 a1_1, .slice A1_2 l1_2.length c1_2, .int .i64 a1_3, .int .i64 a1_4, .slice A1_5 l1_5.length c1_5, .slice A1_6 l1_6.length c1_6, .slice A1_7 l1_7.length c1_7]] rfl ?_; (with_reducible refine (spec_l3Head.calls k _ _ l0_0 _ _ l0_1 a1_0 a1_1 _ _ l1_2 a1_3 a1_4 _ _ l1_5 _ _ l1_6 _ _ l1_7 true _ ?side1 ?side2 ?side3 ?side4 ?side5 ?side6 ?side7 ?side8 ?side9 ?side10 ?side11 ?side12 A6.out).mono ?_); (case side1 => exact cb HR0_0.out); (case side2 => exact HC0_0.out); (case side3 => exact cb HR0_1.out); (case side4 => exact HC0_1.out); (case side5 => exact cb HR1_2.out); (case side6 => exact HC1_2.out); (case side7 => exact cb HR1_5.out); (case side8 => exact HC1_5.out); (case side9 => exact cb HR1_6.out); (case side10 => exact HC1_6.out); (case side11 => exact cb HR1_7.out); (case side12 => exact HC1_7.out); rintro e w24 ⟨rfl, hb⟩; refine ⟨_, rfl, ?_⟩; replace BK183 := kb BK183 hb; replace BK184 := kb BK184 hb; replace HB := hs HB hb; (try clear hb); obtain ⟨_,_,_,_,_,_,_,_,_,_,_,_,_,_,_,_⟩ := cf8 BK184) | (go_at_call 15; (with_reducible refine (spec_l6In.calls (l1_5.length : Int) 1 12 false _ A8.out).mono ?_); rintro e w' ⟨rfl, ⟨nd, rfl⟩⟩))
    go_meet
    case rel => exact ⟨_, (true), (by first | rfl | (simp; done) | (simp [*]; done)), H', ⟨by first | omega | exact Nat.le_refl _⟩, kk BK183, kk BK184, ⟨bl⟩⟩
  ·replace c7 := Bool.eq_false_iff.mpr c7
   subst c7
   replace H := ie H
   have H' := Aside0.mk H
   clear H
   have hnb26 := NB183_184.out
   have hnc26 := NB184_183.out
   obtain ⟨_,_,_,_⟩ := cf2 BK183
   obtain ⟨_,_,_,_,_,_,_,_,_,_,_,_,_,_,_,_⟩ := cf8 BK184
   go_wp2_with (first | ((with_reducible refine gc 34 rfl ?_); refine gl (some 9) Try.func34 #[.agg #[.slice A0_0 l0_0.length c0_0, .slice A0_1 l0_1.length c0_1], .agg #[.int .i64 a1_0, .int .i64 a1_1, .slice A1_2 l1_2.length c1_2, .int .i64 a1_3, .int .i64 a1_4, .slice A1_5 l1_5.length c1_5, .slice A1_6 l1_6.length c1_6, .slice A1_7 l1_7.length c1_7]] rfl ?_; (with_reducible refine (spec_l3Head.calls k _ _ l0_0 _ _ l0_1 a1_0 a1_1 _ _ l1_2 a1_3 a1_4 _ _ l1_5 _ _ l1_6 _ _ l1_7 false _ ?side1 ?side2 ?side3 ?side4 ?side5 ?side6 ?side7 ?side8 ?side9 ?side10 ?side11 ?side12 A6.out).mono ?_); (case side1 => exact cb HR0_0.out); (case side2 => exact HC0_0.out); (case side3 => exact cb HR0_1.out); (case side4 => exact HC0_1.out); (case side5 => exact cb HR1_2.out); (case side6 => exact HC1_2.out); (case side7 => exact cb HR1_5.out); (case side8 => exact HC1_5.out); (case side9 => exact cb HR1_6.out); (case side10 => exact HC1_6.out); (case side11 => exact cb HR1_7.out); (case side12 => exact HC1_7.out); rintro e w29 ⟨rfl, hb⟩; refine ⟨_, rfl, ?_⟩; replace BK183 := kb BK183 hb; replace BK184 := kb BK184 hb; replace HB := hs HB hb; (try clear hb)))
   go_meet
   case rel => exact ⟨_, (true), (by first | rfl | (simp; done) | (simp [*]; done)), H', ⟨by first | omega | exact Nat.le_refl _⟩, kk BK183, kk BK184, ⟨bl⟩⟩
 case rest =>
  clear HC3
  obtain ⟨kq, x32_2, rfl, HA, HJ2, BK183, BK184, HB⟩ := hcut
  cases kq with
  | zero => exact absurd HA.out (by simp [spec_l3Method.j0])
  | succ kj2 =>
   have H := HA.out
   clear HA
   simp only [spec_l3Method.j0] at H
   by_cases c30 : x32_2 = true
   ·subst c30
    replace H := it H
    obtain rfl := Option.some.inj H; clear H
    go_wp2
    go_ret
    exact fin
   ·replace c30 := Bool.eq_false_iff.mpr c30
    subst c30
    replace H := ie H
    have H' := Aside0.mk H
    clear H
    go_wp2
    go_loopg [5] kj2 (fun kq v5 w' => ∃ (x5_2 : Int), v5 = .int .i64 x5_2 ∧ Aside0 (spec_l3Method.l0 kq x5_2 l0_0 l0_1 a1_0 a1_1 l1_2 a1_3 a1_4 l1_5 l1_6 l1_7 = some r) ∧ Aside0 (kq ≤ kj2) ∧ Aside0 (w'.heap[gb183]? = some (.cells #[(.slice A0_0 l0_0.length c0_0), (.slice A0_1 l0_1.length c0_1)] 31 (0, 0))) ∧ Aside0 (w'.heap[gb184]? = some (.cells #[.int .i64 a1_0, .int .i64 a1_1, (.slice A1_2 l1_2.length c1_2), .int .i64 a1_3, .int .i64 a1_4, (.slice A1_5 l1_5.length c1_5), (.slice A1_6 l1_6.length c1_6), (.slice A1_7 l1_7.length c1_7)] 46 (0, 0))) ∧ Aside0 (Below w.heap.size w w'))
    case atStart => exact ⟨(0), (by first | rfl | (simp; done) | (simp [*]; done)), H', ⟨Nat.le_refl _⟩, kk BK183, kk BK184, ⟨bl⟩⟩
    case round =>
     clear H'
     obtain ⟨x5_2, rfl, HA, HK2, BK183, BK184, HB⟩ := hrel
     cases gk with
     | zero => exact absurd HA.out (by simp [spec_l3Method.l0])
     | succ k2 =>
      have H := HA.out
      clear HA
      simp only [spec_l3Method.l0] at H
      by_cases c31 : x5_2 < (l1_5.length : Int)
      ·rw [if_pos c31] at H
       have c31b0 : decide (x5_2 < (l1_5.length : Int)) = true := decide_eq_true c31
       clear c31
       by_cases c32 : 0 ≤ x5_2
       ·rw [if_pos c32] at H
        have c32b0 : decide (0 ≤ x5_2) = true := decide_eq_true c32
        clear c32
        obtain ⟨t188, A33, H⟩ := ob H
        by_cases c34 : t188 = true
        ·subst c34
         replace H := it H
         by_cases c35 : x5_2 < (l1_6.length : Int)
         ·rw [if_pos c35] at H
          have c35b0 : decide (x5_2 < (l1_6.length : Int)) = true := decide_eq_true c35
          clear c35
          obtain ⟨t190, A36, H⟩ := ob H
          by_cases c37 : t190 = true
          ·subst c37
           replace H := it H
           have H' := Aside0.mk H
           clear H
           have hnb38 := NB184_183.out
           have hnc38 := NB183_184.out
           obtain ⟨_,_,_,_,_,_,_,_,_,_,_,_,_,_,_,_⟩ := cf8 BK184
           try go_wp2
           replace BK183 := Aside0.mk (blk_drew BK183.out)
           replace BK184 := Aside0.mk (blk_drew BK184.out)
           replace HB := Aside0.mk (below_drew1 HB.out)
           have p187 : 0 ≤ (x5_2 : Int) := od
           have q187 : x5_2 < (l1_5.length : Int) := od
           obtain ⟨ad187, e187, hx187_0, hx187_1, hx187_2⟩ := at_T67 HR1_5.out x5_2 p187 q187
           have hw187_2 := hx187_2
           have hw187_1 := hx187_1
           have hw187_0 := hx187_0
           cases e187
           obtain ⟨hx187_0,hx187_1,hx187_2⟩ := hc3 HB hx187_0 hx187_1 hx187_2
           replace p187 := eq_true p187
           replace q187 := eq_true q187
           have p189 : 0 ≤ (x5_2 : Int) := od
           have q189 : x5_2 < (l1_6.length : Int) := od
           obtain ⟨ad189, A189_1, c189_1, A189_2, c189_2, e189, hx189_0, hx189_1, hx189_2, hl189_1, hi189_1, hl189_2, hi189_2⟩ := at_T70 HR1_6.out x5_2 p189 q189
           have hw189_2 := hx189_2
           have hw189_1 := hx189_1
           have hw189_0 := hx189_0
           cases e189
           obtain ⟨hx189_0,hx189_1,hx189_2⟩ := hc3 HB hx189_0 hx189_1 hx189_2
           have HR189_1 := Aside0.mk hi189_1
           have HC189_1 := Aside0.mk hl189_1
           clear hi189_1 hl189_1
           have HR189_2 := Aside0.mk hi189_2
           have HC189_2 := Aside0.mk hl189_2
           clear hi189_2 hl189_2
           replace p189 := eq_true p189
           replace q189 := eq_true q189
           refine start_ (n := 22) (S := fun w' => w'.cell? ⟨gb183, 0, none⟩ = some (.slice A0_0 l0_0.length c0_0) ∧ w'.cell? ⟨gb183, 1, none⟩ = some (.slice A0_1 l0_1.length c0_1) ∧ w'.cell? ⟨gb184, 0, none⟩ = some (.int .i64 a1_0) ∧ w'.cell? ⟨gb184, 1, none⟩ = some (.int .i64 a1_1) ∧ w'.cell? ⟨gb184, 2, none⟩ = some (.slice A1_2 l1_2.length c1_2) ∧ w'.cell? ⟨gb184, 3, none⟩ = some (.int .i64 a1_3) ∧ w'.cell? ⟨gb184, 4, none⟩ = some (.int .i64 a1_4) ∧ w'.cell? ⟨gb184, 5, none⟩ = some (.slice (some ad187) l1_5.length c1_5) ∧ w'.cell? ⟨gb184, 6, none⟩ = some (.slice (some ad189) l1_6.length c1_6) ∧ w'.cell? ⟨gb184, 7, none⟩ = some (.slice A1_7 l1_7.length c1_7) ∧ w'.cell? (ad187.add ((x5_2).toNat * 3)) = some (.int .i64 ((rd_T67 l1_5 x5_2).f0)) ∧ w'.cell? ⟨(ad187.add ((x5_2).toNat * 3)).block, (ad187.add ((x5_2).toNat * 3)).off + 1, none⟩ = some (.int .i64 ((rd_T67 l1_5 x5_2).f1)) ∧ w'.cell? ⟨(ad187.add ((x5_2).toNat * 3)).block, (ad187.add ((x5_2).toNat * 3)).off + 2, none⟩ = some (.int .i64 ((rd_T67 l1_5 x5_2).f2)) ∧ w'.cell? (ad189.add ((x5_2).toNat * 3)) = some (.bool ((rd_T70 l1_6 x5_2).f0)) ∧ w'.cell? ⟨(ad189.add ((x5_2).toNat * 3)).block, (ad189.add ((x5_2).toNat * 3)).off + 1, none⟩ = some (.slice A189_1 ((rd_T70 l1_6 x5_2).f1).length c189_1) ∧ w'.cell? ⟨(ad189.add ((x5_2).toNat * 3)).block, (ad189.add ((x5_2).toNat * 3)).off + 2, none⟩ = some (.slice A189_2 ((rd_T70 l1_6 x5_2).f2).length c189_2)) (ds := []) #[false, false, false, false, false, false, false, false, false, false, false, false, false, false, false, false, false, false, false, false, false, false] (by kernel_rfl) rfl rfl ⟨(blk_cell BK183.out 0).trans rfl, (blk_cell BK183.out 1).trans rfl, (blk_cell BK184.out 0).trans rfl, (blk_cell BK184.out 1).trans rfl, (blk_cell BK184.out 2).trans rfl, (blk_cell BK184.out 3).trans rfl, (blk_cell BK184.out 4).trans rfl, (blk_cell BK184.out 5).trans rfl, (blk_cell BK184.out 6).trans rfl, (blk_cell BK184.out 7).trans rfl, ((HB.out.cell (World.block_lt_of_cell? w _ hw187_0)).trans hw187_0), ((HB.out.cell (World.block_lt_of_cell? w _ hw187_1)).trans hw187_1), ((HB.out.cell (World.block_lt_of_cell? w _ hw187_2)).trans hw187_2), ((HB.out.cell (World.block_lt_of_cell? w _ hw189_0)).trans hw189_0), ((HB.out.cell (World.block_lt_of_cell? w _ hw189_1)).trans hw189_1), ((HB.out.cell (World.block_lt_of_cell? w _ hw189_2)).trans hw189_2)⟩ (fun hHeld => ?_); refine with_tabW spec_l3Method.tab6 spec_l3Method.bits6 (fun HT_ HW_ => ?_)
           generalize wr.drew = w40 at BK183 BK184 HB HR189_1 HR189_2 hx187_0 hx187_1 hx187_2 hx189_0 hx189_1 hx189_2 hHeld ⊢
           refine pu 2 42 #[false, false, true, false, false, false, false, false, false, false, false, false, false, false, false, false, false, false, false, false, false, false] HT_ rfl rfl ?_
           refine pu 4 44 #[false, false, true, false, true, false, false, false, false, false, false, false, false, false, false, false, false, false, false, false, false, false] HT_ rfl rfl ?_
           refine ta 0 40 #[true, false, true, false, true, false, false, false, false, false, false, false, false, false, false, false, false, false, false, false, false, false] HT_ HW_ hHeld rfl rfl ?_
           refine ta 1 41 #[true, true, true, false, true, false, false, false, false, false, false, false, false, false, false, false, false, false, false, false, false, false] HT_ HW_ hHeld rfl rfl ?_
           refine ta 3 43 #[true, true, true, true, true, false, false, false, false, false, false, false, false, false, false, false, false, false, false, false, false, false] HT_ HW_ hHeld rfl rfl ?_
           refine pu 5 45 #[true, true, true, true, true, true, false, false, false, false, false, false, false, false, false, false, false, false, false, false, false, false] HT_ rfl rfl ?_
           refine ta 6 46 #[true, true, true, true, true, true, true, false, false, false, false, false, false, false, false, false, false, false, false, false, false, false] HT_ HW_ hHeld rfl rfl ?_
           refine one_ (i := 7) (N := some 47) #[true, true, true, true, true, true, true, true, false, false, false, false, false, false, false, false, false, false, false, false, false, false] rfl rfl (one_of HT_.out (by kernel_rfl)) (by decide) (fun K hK => ?_)
           refine gs Try.func35 #[.agg #[.slice A0_0 l0_0.length c0_0, .slice A0_1 l0_1.length c0_1], .agg #[.int .i64 a1_0, .int .i64 a1_1, .slice A1_2 l1_2.length c1_2, .int .i64 a1_3, .int .i64 a1_4, .slice (some ad187) l1_5.length c1_5, .slice (some ad189) l1_6.length c1_6, .slice A1_7 l1_7.length c1_7], .agg #[.int .i64 ((rd_T67 l1_5 x5_2).f0), .int .i64 ((rd_T67 l1_5 x5_2).f1), .int .i64 ((rd_T67 l1_5 x5_2).f2)]] rfl rfl ?_
           with_reducible refine (spec_l3Ins.calls k2 _ _ l0_0 _ _ l0_1 a1_0 a1_1 _ _ l1_2 a1_3 a1_4 _ _ l1_5 _ _ l1_6 _ _ l1_7 ((rd_T67 l1_5 x5_2).f0) ((rd_T67 l1_5 x5_2).f1) ((rd_T67 l1_5 x5_2).f2) true _ ?side1 ?side2 ?side3 ?side4 ?side5 ?side6 ?side7 ?side8 ?side9 ?side10 ?side11 ?side12 A33.out).mono ?_
           (case side1 => exact cb HR0_0.out)
           (case side2 => exact HC0_0.out)
           (case side3 => exact cb HR0_1.out)
           (case side4 => exact HC0_1.out)
           (case side5 => exact cb HR1_2.out)
           (case side6 => exact HC1_2.out)
           (case side7 => exact cb HR1_5.out)
           (case side8 => exact HC1_5.out)
           (case side9 => exact cb HR1_6.out)
           (case side10 => exact HC1_6.out)
           (case side11 => exact cb HR1_7.out)
           (case side12 => exact HC1_7.out)
           rintro e w41 ⟨rfl, hb⟩
           refine ⟨_, rfl, ?_⟩
           replace BK183 := kb BK183 hb
           replace BK184 := kb BK184 hb
           replace HB := hs HB hb
           (try clear hb)
           (try clear hb2)
           (try clear hk)
           (try clear hi)
           refine hK.out _ _ ⟨(blk_cell BK183.out 0).trans rfl, (blk_cell BK183.out 1).trans rfl, (blk_cell BK184.out 0).trans rfl, (blk_cell BK184.out 1).trans rfl, (blk_cell BK184.out 2).trans rfl, (blk_cell BK184.out 3).trans rfl, (blk_cell BK184.out 4).trans rfl, (blk_cell BK184.out 5).trans rfl, (blk_cell BK184.out 6).trans rfl, (blk_cell BK184.out 7).trans rfl, ((HB.out.cell (World.block_lt_of_cell? w _ hw187_0)).trans hw187_0), ((HB.out.cell (World.block_lt_of_cell? w _ hw187_1)).trans hw187_1), ((HB.out.cell (World.block_lt_of_cell? w _ hw187_2)).trans hw187_2), ((HB.out.cell (World.block_lt_of_cell? w _ hw189_0)).trans hw189_0), ((HB.out.cell (World.block_lt_of_cell? w _ hw189_1)).trans hw189_1), ((HB.out.cell (World.block_lt_of_cell? w _ hw189_2)).trans hw189_2)⟩ (fun hHeld => ?_)
           clear hK K
           refine no 47 ?_
           refine pu 8 48 #[true, true, true, true, true, true, true, true, true, false, false, false, false, false, false, false, false, false, false, false, false, false] HT_ rfl rfl ?_
           refine pu 9 49 #[true, true, true, true, true, true, true, true, true, true, false, false, false, false, false, false, false, false, false, false, false, false] HT_ rfl rfl ?_
           refine pu 10 50 #[true, true, true, true, true, true, true, true, true, true, true, false, false, false, false, false, false, false, false, false, false, false] HT_ rfl rfl ?_
           refine pu 12 52 #[true, true, true, true, true, true, true, true, true, true, true, false, true, false, false, false, false, false, false, false, false, false] HT_ rfl rfl ?_
           refine pu 14 54 #[true, true, true, true, true, true, true, true, true, true, true, false, true, false, true, false, false, false, false, false, false, false] HT_ rfl rfl ?_
           refine pu 16 56 #[true, true, true, true, true, true, true, true, true, true, true, false, true, false, true, false, true, false, false, false, false, false] HT_ rfl rfl ?_
           refine ta 11 51 #[true, true, true, true, true, true, true, true, true, true, true, true, true, false, true, false, true, false, false, false, false, false] HT_ HW_ hHeld rfl rfl ?_
           refine ta 13 53 #[true, true, true, true, true, true, true, true, true, true, true, true, true, true, true, false, true, false, false, false, false, false] HT_ HW_ hHeld rfl rfl ?_
           refine ta 15 55 #[true, true, true, true, true, true, true, true, true, true, true, true, true, true, true, true, true, false, false, false, false, false] HT_ HW_ hHeld rfl rfl ?_
           refine pu 17 57 #[true, true, true, true, true, true, true, true, true, true, true, true, true, true, true, true, true, true, false, false, false, false] HT_ rfl rfl ?_
           refine ta 18 58 #[true, true, true, true, true, true, true, true, true, true, true, true, true, true, true, true, true, true, true, false, false, false] HT_ HW_ hHeld rfl rfl ?_
           refine one_ (i := 19) (N := some 59) #[true, true, true, true, true, true, true, true, true, true, true, true, true, true, true, true, true, true, true, true, false, false] rfl rfl (one_of HT_.out (by kernel_rfl)) (by decide) (fun K hK => ?_)
           refine gs Try.func36 #[.slice A0_0 l0_0.length c0_0, .int .i64 a1_4, .agg #[.bool ((rd_T70 l1_6 x5_2).f0), .slice A189_1 ((rd_T70 l1_6 x5_2).f1).length c189_1, .slice A189_2 ((rd_T70 l1_6 x5_2).f2).length c189_2]] rfl rfl ?_
           with_reducible refine (spec_ShapeOk.calls k2 _ _ l0_0 a1_4 ((rd_T70 l1_6 x5_2).f0) _ _ ((rd_T70 l1_6 x5_2).f1) _ _ ((rd_T70 l1_6 x5_2).f2) true _ ?side1 ?side2 ?side3 ?side4 ?side5 ?side6 A36.out).mono ?_
           (case side1 => exact cb HR0_0.out)
           (case side2 => exact HC0_0.out)
           (case side3 => exact cb HR189_1.out)
           (case side4 => exact HC189_1.out)
           (case side5 => exact cb HR189_2.out)
           (case side6 => exact HC189_2.out)
           rintro e w42 ⟨rfl, hb⟩
           refine ⟨_, rfl, ?_⟩
           replace BK183 := kb BK183 hb
           replace BK184 := kb BK184 hb
           replace HB := hs HB hb
           (try clear hb)
           (try clear hb2)
           (try clear hk)
           (try clear hi)
           refine hK.out _ _ ⟨(blk_cell BK183.out 0).trans rfl, (blk_cell BK183.out 1).trans rfl, (blk_cell BK184.out 0).trans rfl, (blk_cell BK184.out 1).trans rfl, (blk_cell BK184.out 2).trans rfl, (blk_cell BK184.out 3).trans rfl, (blk_cell BK184.out 4).trans rfl, (blk_cell BK184.out 5).trans rfl, (blk_cell BK184.out 6).trans rfl, (blk_cell BK184.out 7).trans rfl, ((HB.out.cell (World.block_lt_of_cell? w _ hw187_0)).trans hw187_0), ((HB.out.cell (World.block_lt_of_cell? w _ hw187_1)).trans hw187_1), ((HB.out.cell (World.block_lt_of_cell? w _ hw187_2)).trans hw187_2), ((HB.out.cell (World.block_lt_of_cell? w _ hw189_0)).trans hw189_0), ((HB.out.cell (World.block_lt_of_cell? w _ hw189_1)).trans hw189_1), ((HB.out.cell (World.block_lt_of_cell? w _ hw189_2)).trans hw189_2)⟩ (fun hHeld => ?_)
           clear hK K
           refine no 59 ?_
           refine pu 20 60 #[true, true, true, true, true, true, true, true, true, true, true, true, true, true, true, true, true, true, true, true, true, false] HT_ rfl rfl ?_
           refine pu 21 61 #[true, true, true, true, true, true, true, true, true, true, true, true, true, true, true, true, true, true, true, true, true, true] HT_ rfl rfl ?_
           refine done_ (done_of HT_.out (by kernel_rfl)) ?_
           try go_wp2
           go_roundg k2
           case measure => have := HJ2.out; have := HK2.out; omega
           case rel => exact ⟨(wrap64 (x5_2 + 1)), (by first | rfl | (simp; done) | (simp [*]; done)), H', ⟨by have := HJ2.out; have := HK2.out; omega⟩, kk BK183, kk BK184, ⟨bl⟩⟩
          ·replace c37 := Bool.eq_false_iff.mpr c37
           subst c37
           replace H := ie H
           obtain rfl := Option.some.inj H; clear H
           have hnb43 := NB184_183.out
           have hnc43 := NB183_184.out
           obtain ⟨_,_,_,_,_,_,_,_,_,_,_,_,_,_,_,_⟩ := cf8 BK184
           try go_wp2
           replace BK183 := Aside0.mk (blk_drew BK183.out)
           replace BK184 := Aside0.mk (blk_drew BK184.out)
           replace HB := Aside0.mk (below_drew1 HB.out)
           have p187 : 0 ≤ (x5_2 : Int) := od
           have q187 : x5_2 < (l1_5.length : Int) := od
           obtain ⟨ad187, e187, hx187_0, hx187_1, hx187_2⟩ := at_T67 HR1_5.out x5_2 p187 q187
           have hw187_2 := hx187_2
           have hw187_1 := hx187_1
           have hw187_0 := hx187_0
           cases e187
           obtain ⟨hx187_0,hx187_1,hx187_2⟩ := hc3 HB hx187_0 hx187_1 hx187_2
           replace p187 := eq_true p187
           replace q187 := eq_true q187
           have p189 : 0 ≤ (x5_2 : Int) := od
           have q189 : x5_2 < (l1_6.length : Int) := od
           obtain ⟨ad189, A189_1, c189_1, A189_2, c189_2, e189, hx189_0, hx189_1, hx189_2, hl189_1, hi189_1, hl189_2, hi189_2⟩ := at_T70 HR1_6.out x5_2 p189 q189
           have hw189_2 := hx189_2
           have hw189_1 := hx189_1
           have hw189_0 := hx189_0
           cases e189
           obtain ⟨hx189_0,hx189_1,hx189_2⟩ := hc3 HB hx189_0 hx189_1 hx189_2
           have HR189_1 := Aside0.mk hi189_1
           have HC189_1 := Aside0.mk hl189_1
           clear hi189_1 hl189_1
           have HR189_2 := Aside0.mk hi189_2
           have HC189_2 := Aside0.mk hl189_2
           clear hi189_2 hl189_2
           replace p189 := eq_true p189
           replace q189 := eq_true q189
           refine start_ (n := 22) (S := fun w' => w'.cell? ⟨gb183, 0, none⟩ = some (.slice A0_0 l0_0.length c0_0) ∧ w'.cell? ⟨gb183, 1, none⟩ = some (.slice A0_1 l0_1.length c0_1) ∧ w'.cell? ⟨gb184, 0, none⟩ = some (.int .i64 a1_0) ∧ w'.cell? ⟨gb184, 1, none⟩ = some (.int .i64 a1_1) ∧ w'.cell? ⟨gb184, 2, none⟩ = some (.slice A1_2 l1_2.length c1_2) ∧ w'.cell? ⟨gb184, 3, none⟩ = some (.int .i64 a1_3) ∧ w'.cell? ⟨gb184, 4, none⟩ = some (.int .i64 a1_4) ∧ w'.cell? ⟨gb184, 5, none⟩ = some (.slice (some ad187) l1_5.length c1_5) ∧ w'.cell? ⟨gb184, 6, none⟩ = some (.slice (some ad189) l1_6.length c1_6) ∧ w'.cell? ⟨gb184, 7, none⟩ = some (.slice A1_7 l1_7.length c1_7) ∧ w'.cell? (ad187.add ((x5_2).toNat * 3)) = some (.int .i64 ((rd_T67 l1_5 x5_2).f0)) ∧ w'.cell? ⟨(ad187.add ((x5_2).toNat * 3)).block, (ad187.add ((x5_2).toNat * 3)).off + 1, none⟩ = some (.int .i64 ((rd_T67 l1_5 x5_2).f1)) ∧ w'.cell? ⟨(ad187.add ((x5_2).toNat * 3)).block, (ad187.add ((x5_2).toNat * 3)).off + 2, none⟩ = some (.int .i64 ((rd_T67 l1_5 x5_2).f2)) ∧ w'.cell? (ad189.add ((x5_2).toNat * 3)) = some (.bool ((rd_T70 l1_6 x5_2).f0)) ∧ w'.cell? ⟨(ad189.add ((x5_2).toNat * 3)).block, (ad189.add ((x5_2).toNat * 3)).off + 1, none⟩ = some (.slice A189_1 ((rd_T70 l1_6 x5_2).f1).length c189_1) ∧ w'.cell? ⟨(ad189.add ((x5_2).toNat * 3)).block, (ad189.add ((x5_2).toNat * 3)).off + 2, none⟩ = some (.slice A189_2 ((rd_T70 l1_6 x5_2).f2).length c189_2)) (ds := []) #[false, false, false, false, false, false, false, false, false, false, false, false, false, false, false, false, false, false, false, false, false, false] (by kernel_rfl) rfl rfl ⟨(blk_cell BK183.out 0).trans rfl, (blk_cell BK183.out 1).trans rfl, (blk_cell BK184.out 0).trans rfl, (blk_cell BK184.out 1).trans rfl, (blk_cell BK184.out 2).trans rfl, (blk_cell BK184.out 3).trans rfl, (blk_cell BK184.out 4).trans rfl, (blk_cell BK184.out 5).trans rfl, (blk_cell BK184.out 6).trans rfl, (blk_cell BK184.out 7).trans rfl, ((HB.out.cell (World.block_lt_of_cell? w _ hw187_0)).trans hw187_0), ((HB.out.cell (World.block_lt_of_cell? w _ hw187_1)).trans hw187_1), ((HB.out.cell (World.block_lt_of_cell? w _ hw187_2)).trans hw187_2), ((HB.out.cell (World.block_lt_of_cell? w _ hw189_0)).trans hw189_0), ((HB.out.cell (World.block_lt_of_cell? w _ hw189_1)).trans hw189_1), ((HB.out.cell (World.block_lt_of_cell? w _ hw189_2)).trans hw189_2)⟩ (fun hHeld => ?_); refine with_tabW spec_l3Method.tab6 spec_l3Method.bits6 (fun HT_ HW_ => ?_)
           generalize wr.drew = w45 at BK183 BK184 HB HR189_1 HR189_2 hx187_0 hx187_1 hx187_2 hx189_0 hx189_1 hx189_2 hHeld ⊢
           refine pu 2 42 #[false, false, true, false, false, false, false, false, false, false, false, false, false, false, false, false, false, false, false, false, false, false] HT_ rfl rfl ?_
           refine pu 4 44 #[false, false, true, false, true, false, false, false, false, false, false, false, false, false, false, false, false, false, false, false, false, false] HT_ rfl rfl ?_
           refine ta 0 40 #[true, false, true, false, true, false, false, false, false, false, false, false, false, false, false, false, false, false, false, false, false, false] HT_ HW_ hHeld rfl rfl ?_
           refine ta 1 41 #[true, true, true, false, true, false, false, false, false, false, false, false, false, false, false, false, false, false, false, false, false, false] HT_ HW_ hHeld rfl rfl ?_
           refine ta 3 43 #[true, true, true, true, true, false, false, false, false, false, false, false, false, false, false, false, false, false, false, false, false, false] HT_ HW_ hHeld rfl rfl ?_
           refine pu 5 45 #[true, true, true, true, true, true, false, false, false, false, false, false, false, false, false, false, false, false, false, false, false, false] HT_ rfl rfl ?_
           refine ta 6 46 #[true, true, true, true, true, true, true, false, false, false, false, false, false, false, false, false, false, false, false, false, false, false] HT_ HW_ hHeld rfl rfl ?_
           refine one_ (i := 7) (N := some 47) #[true, true, true, true, true, true, true, true, false, false, false, false, false, false, false, false, false, false, false, false, false, false] rfl rfl (one_of HT_.out (by kernel_rfl)) (by decide) (fun K hK => ?_)
           refine gs Try.func35 #[.agg #[.slice A0_0 l0_0.length c0_0, .slice A0_1 l0_1.length c0_1], .agg #[.int .i64 a1_0, .int .i64 a1_1, .slice A1_2 l1_2.length c1_2, .int .i64 a1_3, .int .i64 a1_4, .slice (some ad187) l1_5.length c1_5, .slice (some ad189) l1_6.length c1_6, .slice A1_7 l1_7.length c1_7], .agg #[.int .i64 ((rd_T67 l1_5 x5_2).f0), .int .i64 ((rd_T67 l1_5 x5_2).f1), .int .i64 ((rd_T67 l1_5 x5_2).f2)]] rfl rfl ?_
           with_reducible refine (spec_l3Ins.calls k2 _ _ l0_0 _ _ l0_1 a1_0 a1_1 _ _ l1_2 a1_3 a1_4 _ _ l1_5 _ _ l1_6 _ _ l1_7 ((rd_T67 l1_5 x5_2).f0) ((rd_T67 l1_5 x5_2).f1) ((rd_T67 l1_5 x5_2).f2) true _ ?side1 ?side2 ?side3 ?side4 ?side5 ?side6 ?side7 ?side8 ?side9 ?side10 ?side11 ?side12 A33.out).mono ?_
           (case side1 => exact cb HR0_0.out)
           (case side2 => exact HC0_0.out)
           (case side3 => exact cb HR0_1.out)
           (case side4 => exact HC0_1.out)
           (case side5 => exact cb HR1_2.out)
           (case side6 => exact HC1_2.out)
           (case side7 => exact cb HR1_5.out)
           (case side8 => exact HC1_5.out)
           (case side9 => exact cb HR1_6.out)
           (case side10 => exact HC1_6.out)
           (case side11 => exact cb HR1_7.out)
           (case side12 => exact HC1_7.out)
           rintro e w46 ⟨rfl, hb⟩
           refine ⟨_, rfl, ?_⟩
           replace BK183 := kb BK183 hb
           replace BK184 := kb BK184 hb
           replace HB := hs HB hb
           (try clear hb)
           (try clear hb2)
           (try clear hk)
           (try clear hi)
           refine hK.out _ _ ⟨(blk_cell BK183.out 0).trans rfl, (blk_cell BK183.out 1).trans rfl, (blk_cell BK184.out 0).trans rfl, (blk_cell BK184.out 1).trans rfl, (blk_cell BK184.out 2).trans rfl, (blk_cell BK184.out 3).trans rfl, (blk_cell BK184.out 4).trans rfl, (blk_cell BK184.out 5).trans rfl, (blk_cell BK184.out 6).trans rfl, (blk_cell BK184.out 7).trans rfl, ((HB.out.cell (World.block_lt_of_cell? w _ hw187_0)).trans hw187_0), ((HB.out.cell (World.block_lt_of_cell? w _ hw187_1)).trans hw187_1), ((HB.out.cell (World.block_lt_of_cell? w _ hw187_2)).trans hw187_2), ((HB.out.cell (World.block_lt_of_cell? w _ hw189_0)).trans hw189_0), ((HB.out.cell (World.block_lt_of_cell? w _ hw189_1)).trans hw189_1), ((HB.out.cell (World.block_lt_of_cell? w _ hw189_2)).trans hw189_2)⟩ (fun hHeld => ?_)
           clear hK K
           refine no 47 ?_
           refine pu 8 48 #[true, true, true, true, true, true, true, true, true, false, false, false, false, false, false, false, false, false, false, false, false, false] HT_ rfl rfl ?_
           refine pu 9 49 #[true, true, true, true, true, true, true, true, true, true, false, false, false, false, false, false, false, false, false, false, false, false] HT_ rfl rfl ?_
           refine pu 10 50 #[true, true, true, true, true, true, true, true, true, true, true, false, false, false, false, false, false, false, false, false, false, false] HT_ rfl rfl ?_
           refine pu 12 52 #[true, true, true, true, true, true, true, true, true, true, true, false, true, false, false, false, false, false, false, false, false, false] HT_ rfl rfl ?_
           refine pu 14 54 #[true, true, true, true, true, true, true, true, true, true, true, false, true, false, true, false, false, false, false, false, false, false] HT_ rfl rfl ?_
           refine pu 16 56 #[true, true, true, true, true, true, true, true, true, true, true, false, true, false, true, false, true, false, false, false, false, false] HT_ rfl rfl ?_
           refine ta 11 51 #[true, true, true, true, true, true, true, true, true, true, true, true, true, false, true, false, true, false, false, false, false, false] HT_ HW_ hHeld rfl rfl ?_
           refine ta 13 53 #[true, true, true, true, true, true, true, true, true, true, true, true, true, true, true, false, true, false, false, false, false, false] HT_ HW_ hHeld rfl rfl ?_
           refine ta 15 55 #[true, true, true, true, true, true, true, true, true, true, true, true, true, true, true, true, true, false, false, false, false, false] HT_ HW_ hHeld rfl rfl ?_
           refine pu 17 57 #[true, true, true, true, true, true, true, true, true, true, true, true, true, true, true, true, true, true, false, false, false, false] HT_ rfl rfl ?_
           refine ta 18 58 #[true, true, true, true, true, true, true, true, true, true, true, true, true, true, true, true, true, true, true, false, false, false] HT_ HW_ hHeld rfl rfl ?_
           refine one_ (i := 19) (N := some 59) #[true, true, true, true, true, true, true, true, true, true, true, true, true, true, true, true, true, true, true, true, false, false] rfl rfl (one_of HT_.out (by kernel_rfl)) (by decide) (fun K hK => ?_)
           refine gs Try.func36 #[.slice A0_0 l0_0.length c0_0, .int .i64 a1_4, .agg #[.bool ((rd_T70 l1_6 x5_2).f0), .slice A189_1 ((rd_T70 l1_6 x5_2).f1).length c189_1, .slice A189_2 ((rd_T70 l1_6 x5_2).f2).length c189_2]] rfl rfl ?_
           with_reducible refine (spec_ShapeOk.calls k2 _ _ l0_0 a1_4 ((rd_T70 l1_6 x5_2).f0) _ _ ((rd_T70 l1_6 x5_2).f1) _ _ ((rd_T70 l1_6 x5_2).f2) false _ ?side1 ?side2 ?side3 ?side4 ?side5 ?side6 A36.out).mono ?_
           (case side1 => exact cb HR0_0.out)
           (case side2 => exact HC0_0.out)
           (case side3 => exact cb HR189_1.out)
           (case side4 => exact HC189_1.out)
           (case side5 => exact cb HR189_2.out)
           (case side6 => exact HC189_2.out)
           rintro e w47 ⟨rfl, hb⟩
           refine ⟨_, rfl, ?_⟩
           replace BK183 := kb BK183 hb
           replace BK184 := kb BK184 hb
           replace HB := hs HB hb
           (try clear hb)
           (try clear hb2)
           (try clear hk)
           (try clear hi)
           refine hK.out _ _ ⟨(blk_cell BK183.out 0).trans rfl, (blk_cell BK183.out 1).trans rfl, (blk_cell BK184.out 0).trans rfl, (blk_cell BK184.out 1).trans rfl, (blk_cell BK184.out 2).trans rfl, (blk_cell BK184.out 3).trans rfl, (blk_cell BK184.out 4).trans rfl, (blk_cell BK184.out 5).trans rfl, (blk_cell BK184.out 6).trans rfl, (blk_cell BK184.out 7).trans rfl, ((HB.out.cell (World.block_lt_of_cell? w _ hw187_0)).trans hw187_0), ((HB.out.cell (World.block_lt_of_cell? w _ hw187_1)).trans hw187_1), ((HB.out.cell (World.block_lt_of_cell? w _ hw187_2)).trans hw187_2), ((HB.out.cell (World.block_lt_of_cell? w _ hw189_0)).trans hw189_0), ((HB.out.cell (World.block_lt_of_cell? w _ hw189_1)).trans hw189_1), ((HB.out.cell (World.block_lt_of_cell? w _ hw189_2)).trans hw189_2)⟩ (fun hHeld => ?_)
           clear hK K
           refine no 59 ?_
           refine pu 20 60 #[true, true, true, true, true, true, true, true, true, true, true, true, true, true, true, true, true, true, true, true, true, false] HT_ rfl rfl ?_
           refine pu 21 61 #[true, true, true, true, true, true, true, true, true, true, true, true, true, true, true, true, true, true, true, true, true, true] HT_ rfl rfl ?_
           refine done_ (done_of HT_.out (by kernel_rfl)) ?_
           try go_wp2
           go_ret
           exact fin
         ·rw [if_neg c35] at H
          exact absurd H (by simp)
        ·replace c34 := Bool.eq_false_iff.mpr c34
         subst c34
         replace H := ie H
         obtain rfl := Option.some.inj H; clear H
         have hnb48 := NB184_183.out
         have hnc48 := NB183_184.out
         obtain ⟨_,_,_,_,_,_,_,_,_,_,_,_,_,_,_,_⟩ := cf8 BK184
         try go_wp2
         replace BK183 := Aside0.mk (blk_drew BK183.out)
         replace BK184 := Aside0.mk (blk_drew BK184.out)
         replace HB := Aside0.mk (below_drew1 HB.out)
         have p187 : 0 ≤ (x5_2 : Int) := od
         have q187 : x5_2 < (l1_5.length : Int) := od
         obtain ⟨ad187, e187, hx187_0, hx187_1, hx187_2⟩ := at_T67 HR1_5.out x5_2 p187 q187
         have hw187_2 := hx187_2
         have hw187_1 := hx187_1
         have hw187_0 := hx187_0
         cases e187
         obtain ⟨hx187_0,hx187_1,hx187_2⟩ := hc3 HB hx187_0 hx187_1 hx187_2
         replace p187 := eq_true p187
         replace q187 := eq_true q187
         refine start_ (n := 22) (S := fun w' => w'.cell? ⟨gb183, 0, none⟩ = some (.slice A0_0 l0_0.length c0_0) ∧ w'.cell? ⟨gb183, 1, none⟩ = some (.slice A0_1 l0_1.length c0_1) ∧ w'.cell? ⟨gb184, 0, none⟩ = some (.int .i64 a1_0) ∧ w'.cell? ⟨gb184, 1, none⟩ = some (.int .i64 a1_1) ∧ w'.cell? ⟨gb184, 2, none⟩ = some (.slice A1_2 l1_2.length c1_2) ∧ w'.cell? ⟨gb184, 3, none⟩ = some (.int .i64 a1_3) ∧ w'.cell? ⟨gb184, 4, none⟩ = some (.int .i64 a1_4) ∧ w'.cell? ⟨gb184, 5, none⟩ = some (.slice (some ad187) l1_5.length c1_5) ∧ w'.cell? ⟨gb184, 6, none⟩ = some (.slice A1_6 l1_6.length c1_6) ∧ w'.cell? ⟨gb184, 7, none⟩ = some (.slice A1_7 l1_7.length c1_7) ∧ w'.cell? (ad187.add ((x5_2).toNat * 3)) = some (.int .i64 ((rd_T67 l1_5 x5_2).f0)) ∧ w'.cell? ⟨(ad187.add ((x5_2).toNat * 3)).block, (ad187.add ((x5_2).toNat * 3)).off + 1, none⟩ = some (.int .i64 ((rd_T67 l1_5 x5_2).f1)) ∧ w'.cell? ⟨(ad187.add ((x5_2).toNat * 3)).block, (ad187.add ((x5_2).toNat * 3)).off + 2, none⟩ = some (.int .i64 ((rd_T67 l1_5 x5_2).f2))) (ds := []) #[false, false, false, false, false, false, false, false, false, false, false, false, false, false, false, false, false, false, false, false, false, false] (by kernel_rfl) rfl rfl ⟨(blk_cell BK183.out 0).trans rfl, (blk_cell BK183.out 1).trans rfl, (blk_cell BK184.out 0).trans rfl, (blk_cell BK184.out 1).trans rfl, (blk_cell BK184.out 2).trans rfl, (blk_cell BK184.out 3).trans rfl, (blk_cell BK184.out 4).trans rfl, (blk_cell BK184.out 5).trans rfl, (blk_cell BK184.out 6).trans rfl, (blk_cell BK184.out 7).trans rfl, ((HB.out.cell (World.block_lt_of_cell? w _ hw187_0)).trans hw187_0), ((HB.out.cell (World.block_lt_of_cell? w _ hw187_1)).trans hw187_1), ((HB.out.cell (World.block_lt_of_cell? w _ hw187_2)).trans hw187_2)⟩ (fun hHeld => ?_); refine with_tabW spec_l3Method.tab6 spec_l3Method.bits6 (fun HT_ HW_ => ?_)
         generalize wr.drew = w50 at BK183 BK184 HB hx187_0 hx187_1 hx187_2 hHeld ⊢
         refine pu 2 42 #[false, false, true, false, false, false, false, false, false, false, false, false, false, false, false, false, false, false, false, false, false, false] HT_ rfl rfl ?_
         refine pu 4 44 #[false, false, true, false, true, false, false, false, false, false, false, false, false, false, false, false, false, false, false, false, false, false] HT_ rfl rfl ?_
         refine ta 0 40 #[true, false, true, false, true, false, false, false, false, false, false, false, false, false, false, false, false, false, false, false, false, false] HT_ HW_ hHeld rfl rfl ?_
         refine ta 1 41 #[true, true, true, false, true, false, false, false, false, false, false, false, false, false, false, false, false, false, false, false, false, false] HT_ HW_ hHeld rfl rfl ?_
         refine ta 3 43 #[true, true, true, true, true, false, false, false, false, false, false, false, false, false, false, false, false, false, false, false, false, false] HT_ HW_ hHeld rfl rfl ?_
         refine pu 5 45 #[true, true, true, true, true, true, false, false, false, false, false, false, false, false, false, false, false, false, false, false, false, false] HT_ rfl rfl ?_
         refine ta 6 46 #[true, true, true, true, true, true, true, false, false, false, false, false, false, false, false, false, false, false, false, false, false, false] HT_ HW_ hHeld rfl rfl ?_
         refine one_ (i := 7) (N := some 47) #[true, true, true, true, true, true, true, true, false, false, false, false, false, false, false, false, false, false, false, false, false, false] rfl rfl (one_of HT_.out (by kernel_rfl)) (by decide) (fun K hK => ?_)
         refine gs Try.func35 #[.agg #[.slice A0_0 l0_0.length c0_0, .slice A0_1 l0_1.length c0_1], .agg #[.int .i64 a1_0, .int .i64 a1_1, .slice A1_2 l1_2.length c1_2, .int .i64 a1_3, .int .i64 a1_4, .slice (some ad187) l1_5.length c1_5, .slice A1_6 l1_6.length c1_6, .slice A1_7 l1_7.length c1_7], .agg #[.int .i64 ((rd_T67 l1_5 x5_2).f0), .int .i64 ((rd_T67 l1_5 x5_2).f1), .int .i64 ((rd_T67 l1_5 x5_2).f2)]] rfl rfl ?_
         with_reducible refine (spec_l3Ins.calls k2 _ _ l0_0 _ _ l0_1 a1_0 a1_1 _ _ l1_2 a1_3 a1_4 _ _ l1_5 _ _ l1_6 _ _ l1_7 ((rd_T67 l1_5 x5_2).f0) ((rd_T67 l1_5 x5_2).f1) ((rd_T67 l1_5 x5_2).f2) false _ ?side1 ?side2 ?side3 ?side4 ?side5 ?side6 ?side7 ?side8 ?side9 ?side10 ?side11 ?side12 A33.out).mono ?_
         (case side1 => exact cb HR0_0.out)
         (case side2 => exact HC0_0.out)
         (case side3 => exact cb HR0_1.out)
         (case side4 => exact HC0_1.out)
         (case side5 => exact cb HR1_2.out)
         (case side6 => exact HC1_2.out)
         (case side7 => exact cb HR1_5.out)
         (case side8 => exact HC1_5.out)
         (case side9 => exact cb HR1_6.out)
         (case side10 => exact HC1_6.out)
         (case side11 => exact cb HR1_7.out)
         (case side12 => exact HC1_7.out)
         rintro e w51 ⟨rfl, hb⟩
         refine ⟨_, rfl, ?_⟩
         replace BK183 := kb BK183 hb
         replace BK184 := kb BK184 hb
         replace HB := hs HB hb
         (try clear hb)
         (try clear hb2)
         (try clear hk)
         (try clear hi)
         refine hK.out _ _ ⟨(blk_cell BK183.out 0).trans rfl, (blk_cell BK183.out 1).trans rfl, (blk_cell BK184.out 0).trans rfl, (blk_cell BK184.out 1).trans rfl, (blk_cell BK184.out 2).trans rfl, (blk_cell BK184.out 3).trans rfl, (blk_cell BK184.out 4).trans rfl, (blk_cell BK184.out 5).trans rfl, (blk_cell BK184.out 6).trans rfl, (blk_cell BK184.out 7).trans rfl, ((HB.out.cell (World.block_lt_of_cell? w _ hw187_0)).trans hw187_0), ((HB.out.cell (World.block_lt_of_cell? w _ hw187_1)).trans hw187_1), ((HB.out.cell (World.block_lt_of_cell? w _ hw187_2)).trans hw187_2)⟩ (fun hHeld => ?_)
         clear hK K
         refine no 47 ?_
         refine pu 8 48 #[true, true, true, true, true, true, true, true, true, false, false, false, false, false, false, false, false, false, false, false, false, false] HT_ rfl rfl ?_
         refine pu 9 49 #[true, true, true, true, true, true, true, true, true, true, false, false, false, false, false, false, false, false, false, false, false, false] HT_ rfl rfl ?_
         refine pv 10 50 #[true, true, true, true, true, true, true, true, true, true, true, false, false, false, false, false, false, false, false, false, false, false] HT_ rfl rfl ?_
         refine pv 11 51 #[true, true, true, true, true, true, true, true, true, true, true, true, false, false, false, false, false, false, false, false, false, false] HT_ rfl rfl ?_
         refine pv 12 52 #[true, true, true, true, true, true, true, true, true, true, true, true, true, false, false, false, false, false, false, false, false, false] HT_ rfl rfl ?_
         refine pv 13 53 #[true, true, true, true, true, true, true, true, true, true, true, true, true, true, false, false, false, false, false, false, false, false] HT_ rfl rfl ?_
         refine pv 14 54 #[true, true, true, true, true, true, true, true, true, true, true, true, true, true, true, false, false, false, false, false, false, false] HT_ rfl rfl ?_
         refine pv 15 55 #[true, true, true, true, true, true, true, true, true, true, true, true, true, true, true, true, false, false, false, false, false, false] HT_ rfl rfl ?_
         refine pv 16 56 #[true, true, true, true, true, true, true, true, true, true, true, true, true, true, true, true, true, false, false, false, false, false] HT_ rfl rfl ?_
         refine pv 17 57 #[true, true, true, true, true, true, true, true, true, true, true, true, true, true, true, true, true, true, false, false, false, false] HT_ rfl rfl ?_
         refine pv 18 58 #[true, true, true, true, true, true, true, true, true, true, true, true, true, true, true, true, true, true, true, false, false, false] HT_ rfl rfl ?_
         refine pv 19 59 #[true, true, true, true, true, true, true, true, true, true, true, true, true, true, true, true, true, true, true, true, false, false] HT_ rfl rfl ?_
         refine pv 20 60 #[true, true, true, true, true, true, true, true, true, true, true, true, true, true, true, true, true, true, true, true, true, false] HT_ rfl rfl ?_
         refine pu 21 61 #[true, true, true, true, true, true, true, true, true, true, true, true, true, true, true, true, true, true, true, true, true, true] HT_ rfl rfl ?_
         refine done_ (done_of HT_.out (by kernel_rfl)) ?_
         try go_wp2
         go_ret
         exact fin
       ·rw [if_neg c32] at H
        exact absurd H (by simp)
      ·rw [if_neg c31] at H
       have c31b0 : decide (x5_2 < (l1_5.length : Int)) = false := decide_eq_false c31
       clear c31
       have H' := Aside0.mk H
       clear H
       have hnb52 := NB184_183.out
       have hnc52 := NB183_184.out
       obtain ⟨_,_,_,_,_,_,_,_,_,_,_,_,_,_,_,_⟩ := cf8 BK184
       go_wp2
       go_loopg [6] k2 (fun kq v6 w' => ∃ (x6_3 : Int), v6 = .int .i64 x6_3 ∧ Aside0 (spec_l3Method.l1 kq x6_3 l0_0 l0_1 a1_0 a1_1 l1_2 a1_3 a1_4 l1_5 l1_6 l1_7 = some r) ∧ Aside0 (kq ≤ k2) ∧ Aside0 (w'.heap[gb183]? = some (.cells #[(.slice A0_0 l0_0.length c0_0), (.slice A0_1 l0_1.length c0_1)] 31 (0, 0))) ∧ Aside0 (w'.heap[gb184]? = some (.cells #[.int .i64 a1_0, .int .i64 a1_1, (.slice A1_2 l1_2.length c1_2), .int .i64 a1_3, .int .i64 a1_4, (.slice A1_5 l1_5.length c1_5), (.slice A1_6 l1_6.length c1_6), (.slice A1_7 l1_7.length c1_7)] 46 (0, 0))) ∧ Aside0 (Below w.heap.size w w'))
       case atStart => exact ⟨(0), (by first | rfl | (simp; done) | (simp [*]; done)), H', ⟨Nat.le_refl _⟩, kk BK183, kk BK184, ⟨bl⟩⟩
       case round =>
        clear H'
        obtain ⟨x6_3, rfl, HA, HK3, BK183, BK184, HB⟩ := hrel
        cases gk with
        | zero => exact absurd HA.out (by simp [spec_l3Method.l1])
        | succ k3 =>
         have H := HA.out
         clear HA
         simp only [spec_l3Method.l1] at H
         by_cases c54 : x6_3 < (l1_7.length : Int)
         ·rw [if_pos c54] at H
          have c54b0 : decide (x6_3 < (l1_7.length : Int)) = true := decide_eq_true c54
          clear c54
          by_cases c55 : 0 ≤ x6_3
          ·rw [if_pos c55] at H
           have c55b0 : decide (0 ≤ x6_3) = true := decide_eq_true c55
           clear c55
           obtain ⟨t192, A56, H⟩ := ob H
           by_cases c57 : t192 = true
           ·subst c57
            replace H := it H
            have H' := Aside0.mk H
            clear H
            have hnb58 := NB184_183.out
            have hnc58 := NB183_184.out
            obtain ⟨_,_,_,_,_,_,_,_,_,_,_,_,_,_,_,_⟩ := cf8 BK184
            try go_wp2
            replace BK183 := Aside0.mk (blk_drew BK183.out)
            replace BK184 := Aside0.mk (blk_drew BK184.out)
            replace HB := Aside0.mk (below_drew1 HB.out)
            have p191 : 0 ≤ (x6_3 : Int) := od
            have q191 : x6_3 < (l1_7.length : Int) := od
            obtain ⟨ad191, e191, hx191_0, hx191_1, hx191_2, hx191_3⟩ := at_T73 HR1_7.out x6_3 p191 q191
            have hw191_3 := hx191_3
            have hw191_2 := hx191_2
            have hw191_1 := hx191_1
            have hw191_0 := hx191_0
            cases e191
            obtain ⟨hx191_0,hx191_1,hx191_2,hx191_3⟩ := hc4 HB hx191_0 hx191_1 hx191_2 hx191_3
            replace p191 := eq_true p191
            replace q191 := eq_true q191
            refine start_ (n := 9) (S := fun w' => w'.cell? ⟨gb183, 0, none⟩ = some (.slice A0_0 l0_0.length c0_0) ∧ w'.cell? ⟨gb183, 1, none⟩ = some (.slice A0_1 l0_1.length c0_1) ∧ w'.cell? ⟨gb184, 0, none⟩ = some (.int .i64 a1_0) ∧ w'.cell? ⟨gb184, 1, none⟩ = some (.int .i64 a1_1) ∧ w'.cell? ⟨gb184, 2, none⟩ = some (.slice A1_2 l1_2.length c1_2) ∧ w'.cell? ⟨gb184, 3, none⟩ = some (.int .i64 a1_3) ∧ w'.cell? ⟨gb184, 4, none⟩ = some (.int .i64 a1_4) ∧ w'.cell? ⟨gb184, 5, none⟩ = some (.slice A1_5 l1_5.length c1_5) ∧ w'.cell? ⟨gb184, 6, none⟩ = some (.slice A1_6 l1_6.length c1_6) ∧ w'.cell? ⟨gb184, 7, none⟩ = some (.slice (some ad191) l1_7.length c1_7) ∧ w'.cell? (ad191.add ((x6_3).toNat * 4)) = some (.int .i64 ((rd_T73 l1_7 x6_3).f0)) ∧ w'.cell? ⟨(ad191.add ((x6_3).toNat * 4)).block, (ad191.add ((x6_3).toNat * 4)).off + 1, none⟩ = some (.int .i64 ((rd_T73 l1_7 x6_3).f1)) ∧ w'.cell? ⟨(ad191.add ((x6_3).toNat * 4)).block, (ad191.add ((x6_3).toNat * 4)).off + 2, none⟩ = some (.int .i64 ((rd_T73 l1_7 x6_3).f2)) ∧ w'.cell? ⟨(ad191.add ((x6_3).toNat * 4)).block, (ad191.add ((x6_3).toNat * 4)).off + 3, none⟩ = some (.int .i64 ((rd_T73 l1_7 x6_3).f3))) (ds := []) #[false, false, false, false, false, false, false, false, false] (by kernel_rfl) rfl rfl ⟨(blk_cell BK183.out 0).trans rfl, (blk_cell BK183.out 1).trans rfl, (blk_cell BK184.out 0).trans rfl, (blk_cell BK184.out 1).trans rfl, (blk_cell BK184.out 2).trans rfl, (blk_cell BK184.out 3).trans rfl, (blk_cell BK184.out 4).trans rfl, (blk_cell BK184.out 5).trans rfl, (blk_cell BK184.out 6).trans rfl, (blk_cell BK184.out 7).trans rfl, ((HB.out.cell (World.block_lt_of_cell? w _ hw191_0)).trans hw191_0), ((HB.out.cell (World.block_lt_of_cell? w _ hw191_1)).trans hw191_1), ((HB.out.cell (World.block_lt_of_cell? w _ hw191_2)).trans hw191_2), ((HB.out.cell (World.block_lt_of_cell? w _ hw191_3)).trans hw191_3)⟩ (fun hHeld => ?_); refine with_tabW spec_l3Method.tab11 spec_l3Method.bits11 (fun HT_ HW_ => ?_)
            generalize wr.drew = w60 at BK183 BK184 HB hx191_0 hx191_1 hx191_2 hx191_3 hHeld ⊢
            refine pu 2 71 #[false, false, true, false, false, false, false, false, false] HT_ rfl rfl ?_
            refine pu 4 73 #[false, false, true, false, true, false, false, false, false] HT_ rfl rfl ?_
            refine ta 0 69 #[true, false, true, false, true, false, false, false, false] HT_ HW_ hHeld rfl rfl ?_
            refine ta 1 70 #[true, true, true, false, true, false, false, false, false] HT_ HW_ hHeld rfl rfl ?_
            refine ta 3 72 #[true, true, true, true, true, false, false, false, false] HT_ HW_ hHeld rfl rfl ?_
            refine pu 5 74 #[true, true, true, true, true, true, false, false, false] HT_ rfl rfl ?_
            refine ta 6 75 #[true, true, true, true, true, true, true, false, false] HT_ HW_ hHeld rfl rfl ?_
            refine one_ (i := 7) (N := some 76) #[true, true, true, true, true, true, true, true, false] rfl rfl (one_of HT_.out (by kernel_rfl)) (by decide) (fun K hK => ?_)
            refine gs Try.func37 #[.agg #[.slice A0_0 l0_0.length c0_0, .slice A0_1 l0_1.length c0_1], .agg #[.int .i64 a1_0, .int .i64 a1_1, .slice A1_2 l1_2.length c1_2, .int .i64 a1_3, .int .i64 a1_4, .slice A1_5 l1_5.length c1_5, .slice A1_6 l1_6.length c1_6, .slice (some ad191) l1_7.length c1_7], .agg #[.int .i64 ((rd_T73 l1_7 x6_3).f0), .int .i64 ((rd_T73 l1_7 x6_3).f1), .int .i64 ((rd_T73 l1_7 x6_3).f2), .int .i64 ((rd_T73 l1_7 x6_3).f3)]] rfl rfl ?_
            with_reducible refine (spec_l3Catch.calls k3 _ _ l0_0 _ _ l0_1 a1_0 a1_1 _ _ l1_2 a1_3 a1_4 _ _ l1_5 _ _ l1_6 _ _ l1_7 ((rd_T73 l1_7 x6_3).f0) ((rd_T73 l1_7 x6_3).f1) ((rd_T73 l1_7 x6_3).f2) ((rd_T73 l1_7 x6_3).f3) true _ ?side1 ?side2 ?side3 ?side4 ?side5 ?side6 ?side7 ?side8 ?side9 ?side10 ?side11 ?side12 A56.out).mono ?_
            (case side1 => exact cb HR0_0.out)
            (case side2 => exact HC0_0.out)
            (case side3 => exact cb HR0_1.out)
            (case side4 => exact HC0_1.out)
            (case side5 => exact cb HR1_2.out)
            (case side6 => exact HC1_2.out)
            (case side7 => exact cb HR1_5.out)
            (case side8 => exact HC1_5.out)
            (case side9 => exact cb HR1_6.out)
            (case side10 => exact HC1_6.out)
            (case side11 => exact cb HR1_7.out)
            (case side12 => exact HC1_7.out)
            rintro e w61 ⟨rfl, hb⟩
            refine ⟨_, rfl, ?_⟩
            replace BK183 := kb BK183 hb
            replace BK184 := kb BK184 hb
            replace HB := hs HB hb
            (try clear hb)
            (try clear hb2)
            (try clear hk)
            (try clear hi)
            refine hK.out _ _ ⟨(blk_cell BK183.out 0).trans rfl, (blk_cell BK183.out 1).trans rfl, (blk_cell BK184.out 0).trans rfl, (blk_cell BK184.out 1).trans rfl, (blk_cell BK184.out 2).trans rfl, (blk_cell BK184.out 3).trans rfl, (blk_cell BK184.out 4).trans rfl, (blk_cell BK184.out 5).trans rfl, (blk_cell BK184.out 6).trans rfl, (blk_cell BK184.out 7).trans rfl, ((HB.out.cell (World.block_lt_of_cell? w _ hw191_0)).trans hw191_0), ((HB.out.cell (World.block_lt_of_cell? w _ hw191_1)).trans hw191_1), ((HB.out.cell (World.block_lt_of_cell? w _ hw191_2)).trans hw191_2), ((HB.out.cell (World.block_lt_of_cell? w _ hw191_3)).trans hw191_3)⟩ (fun hHeld => ?_)
            clear hK K
            refine no 76 ?_
            refine pu 8 77 #[true, true, true, true, true, true, true, true, true] HT_ rfl rfl ?_
            refine done_ (done_of HT_.out (by kernel_rfl)) ?_
            try go_wp2
            go_roundg k3
            case measure => have := HJ2.out; have := HK2.out; have := HK3.out; omega
            case rel => exact ⟨(wrap64 (x6_3 + 1)), (by first | rfl | (simp; done) | (simp [*]; done)), H', ⟨by have := HJ2.out; have := HK2.out; have := HK3.out; omega⟩, kk BK183, kk BK184, ⟨bl⟩⟩
           ·replace c57 := Bool.eq_false_iff.mpr c57
            subst c57
            replace H := ie H
            obtain rfl := Option.some.inj H; clear H
            have hnb62 := NB184_183.out
            have hnc62 := NB183_184.out
            obtain ⟨_,_,_,_,_,_,_,_,_,_,_,_,_,_,_,_⟩ := cf8 BK184
            try go_wp2
            replace BK183 := Aside0.mk (blk_drew BK183.out)
            replace BK184 := Aside0.mk (blk_drew BK184.out)
            replace HB := Aside0.mk (below_drew1 HB.out)
            have p191 : 0 ≤ (x6_3 : Int) := od
            have q191 : x6_3 < (l1_7.length : Int) := od
            obtain ⟨ad191, e191, hx191_0, hx191_1, hx191_2, hx191_3⟩ := at_T73 HR1_7.out x6_3 p191 q191
            have hw191_3 := hx191_3
            have hw191_2 := hx191_2
            have hw191_1 := hx191_1
            have hw191_0 := hx191_0
            cases e191
            obtain ⟨hx191_0,hx191_1,hx191_2,hx191_3⟩ := hc4 HB hx191_0 hx191_1 hx191_2 hx191_3
            replace p191 := eq_true p191
            replace q191 := eq_true q191
            refine start_ (n := 9) (S := fun w' => w'.cell? ⟨gb183, 0, none⟩ = some (.slice A0_0 l0_0.length c0_0) ∧ w'.cell? ⟨gb183, 1, none⟩ = some (.slice A0_1 l0_1.length c0_1) ∧ w'.cell? ⟨gb184, 0, none⟩ = some (.int .i64 a1_0) ∧ w'.cell? ⟨gb184, 1, none⟩ = some (.int .i64 a1_1) ∧ w'.cell? ⟨gb184, 2, none⟩ = some (.slice A1_2 l1_2.length c1_2) ∧ w'.cell? ⟨gb184, 3, none⟩ = some (.int .i64 a1_3) ∧ w'.cell? ⟨gb184, 4, none⟩ = some (.int .i64 a1_4) ∧ w'.cell? ⟨gb184, 5, none⟩ = some (.slice A1_5 l1_5.length c1_5) ∧ w'.cell? ⟨gb184, 6, none⟩ = some (.slice A1_6 l1_6.length c1_6) ∧ w'.cell? ⟨gb184, 7, none⟩ = some (.slice (some ad191) l1_7.length c1_7) ∧ w'.cell? (ad191.add ((x6_3).toNat * 4)) = some (.int .i64 ((rd_T73 l1_7 x6_3).f0)) ∧ w'.cell? ⟨(ad191.add ((x6_3).toNat * 4)).block, (ad191.add ((x6_3).toNat * 4)).off + 1, none⟩ = some (.int .i64 ((rd_T73 l1_7 x6_3).f1)) ∧ w'.cell? ⟨(ad191.add ((x6_3).toNat * 4)).block, (ad191.add ((x6_3).toNat * 4)).off + 2, none⟩ = some (.int .i64 ((rd_T73 l1_7 x6_3).f2)) ∧ w'.cell? ⟨(ad191.add ((x6_3).toNat * 4)).block, (ad191.add ((x6_3).toNat * 4)).off + 3, none⟩ = some (.int .i64 ((rd_T73 l1_7 x6_3).f3))) (ds := []) #[false, false, false, false, false, false, false, false, false] (by kernel_rfl) rfl rfl ⟨(blk_cell BK183.out 0).trans rfl, (blk_cell BK183.out 1).trans rfl, (blk_cell BK184.out 0).trans rfl, (blk_cell BK184.out 1).trans rfl, (blk_cell BK184.out 2).trans rfl, (blk_cell BK184.out 3).trans rfl, (blk_cell BK184.out 4).trans rfl, (blk_cell BK184.out 5).trans rfl, (blk_cell BK184.out 6).trans rfl, (blk_cell BK184.out 7).trans rfl, ((HB.out.cell (World.block_lt_of_cell? w _ hw191_0)).trans hw191_0), ((HB.out.cell (World.block_lt_of_cell? w _ hw191_1)).trans hw191_1), ((HB.out.cell (World.block_lt_of_cell? w _ hw191_2)).trans hw191_2), ((HB.out.cell (World.block_lt_of_cell? w _ hw191_3)).trans hw191_3)⟩ (fun hHeld => ?_); refine with_tabW spec_l3Method.tab11 spec_l3Method.bits11 (fun HT_ HW_ => ?_)
            generalize wr.drew = w64 at BK183 BK184 HB hx191_0 hx191_1 hx191_2 hx191_3 hHeld ⊢
            refine pu 2 71 #[false, false, true, false, false, false, false, false, false] HT_ rfl rfl ?_
            refine pu 4 73 #[false, false, true, false, true, false, false, false, false] HT_ rfl rfl ?_
            refine ta 0 69 #[true, false, true, false, true, false, false, false, false] HT_ HW_ hHeld rfl rfl ?_
            refine ta 1 70 #[true, true, true, false, true, false, false, false, false] HT_ HW_ hHeld rfl rfl ?_
            refine ta 3 72 #[true, true, true, true, true, false, false, false, false] HT_ HW_ hHeld rfl rfl ?_
            refine pu 5 74 #[true, true, true, true, true, true, false, false, false] HT_ rfl rfl ?_
            refine ta 6 75 #[true, true, true, true, true, true, true, false, false] HT_ HW_ hHeld rfl rfl ?_
            refine one_ (i := 7) (N := some 76) #[true, true, true, true, true, true, true, true, false] rfl rfl (one_of HT_.out (by kernel_rfl)) (by decide) (fun K hK => ?_)
            refine gs Try.func37 #[.agg #[.slice A0_0 l0_0.length c0_0, .slice A0_1 l0_1.length c0_1], .agg #[.int .i64 a1_0, .int .i64 a1_1, .slice A1_2 l1_2.length c1_2, .int .i64 a1_3, .int .i64 a1_4, .slice A1_5 l1_5.length c1_5, .slice A1_6 l1_6.length c1_6, .slice (some ad191) l1_7.length c1_7], .agg #[.int .i64 ((rd_T73 l1_7 x6_3).f0), .int .i64 ((rd_T73 l1_7 x6_3).f1), .int .i64 ((rd_T73 l1_7 x6_3).f2), .int .i64 ((rd_T73 l1_7 x6_3).f3)]] rfl rfl ?_
            with_reducible refine (spec_l3Catch.calls k3 _ _ l0_0 _ _ l0_1 a1_0 a1_1 _ _ l1_2 a1_3 a1_4 _ _ l1_5 _ _ l1_6 _ _ l1_7 ((rd_T73 l1_7 x6_3).f0) ((rd_T73 l1_7 x6_3).f1) ((rd_T73 l1_7 x6_3).f2) ((rd_T73 l1_7 x6_3).f3) false _ ?side1 ?side2 ?side3 ?side4 ?side5 ?side6 ?side7 ?side8 ?side9 ?side10 ?side11 ?side12 A56.out).mono ?_
            (case side1 => exact cb HR0_0.out)
            (case side2 => exact HC0_0.out)
            (case side3 => exact cb HR0_1.out)
            (case side4 => exact HC0_1.out)
            (case side5 => exact cb HR1_2.out)
            (case side6 => exact HC1_2.out)
            (case side7 => exact cb HR1_5.out)
            (case side8 => exact HC1_5.out)
            (case side9 => exact cb HR1_6.out)
            (case side10 => exact HC1_6.out)
            (case side11 => exact cb HR1_7.out)
            (case side12 => exact HC1_7.out)
            rintro e w65 ⟨rfl, hb⟩
            refine ⟨_, rfl, ?_⟩
            replace BK183 := kb BK183 hb
            replace BK184 := kb BK184 hb
            replace HB := hs HB hb
            (try clear hb)
            (try clear hb2)
            (try clear hk)
            (try clear hi)
            refine hK.out _ _ ⟨(blk_cell BK183.out 0).trans rfl, (blk_cell BK183.out 1).trans rfl, (blk_cell BK184.out 0).trans rfl, (blk_cell BK184.out 1).trans rfl, (blk_cell BK184.out 2).trans rfl, (blk_cell BK184.out 3).trans rfl, (blk_cell BK184.out 4).trans rfl, (blk_cell BK184.out 5).trans rfl, (blk_cell BK184.out 6).trans rfl, (blk_cell BK184.out 7).trans rfl, ((HB.out.cell (World.block_lt_of_cell? w _ hw191_0)).trans hw191_0), ((HB.out.cell (World.block_lt_of_cell? w _ hw191_1)).trans hw191_1), ((HB.out.cell (World.block_lt_of_cell? w _ hw191_2)).trans hw191_2), ((HB.out.cell (World.block_lt_of_cell? w _ hw191_3)).trans hw191_3)⟩ (fun hHeld => ?_)
            clear hK K
            refine no 76 ?_
            refine pu 8 77 #[true, true, true, true, true, true, true, true, true] HT_ rfl rfl ?_
            refine done_ (done_of HT_.out (by kernel_rfl)) ?_
            try go_wp2
            go_ret
            exact fin
          ·rw [if_neg c55] at H
           exact absurd H (by simp)
         ·rw [if_neg c54] at H
          have c54b0 : decide (x6_3 < (l1_7.length : Int)) = false := decide_eq_false c54
          clear c54
          obtain rfl := Option.some.inj H; clear H
          have hnb66 := NB184_183.out
          have hnc66 := NB183_184.out
          obtain ⟨_,_,_,_,_,_,_,_,_,_,_,_,_,_,_,_⟩ := cf8 BK184
          go_wp2
          go_ret
          exact fin
end Go.Proofs.Ytedodaifpekahaa.P

end
section

namespace Go.Proofs.Ytedodaifpekahaa.P
open Go.RowKit Go.Proofs.YtedodaifpekahaaW.PrintWords Go.Proofs.YtedodaifpekahaaW.PrintLast Go.Proofs.YtedodaifpekahaaW.PrintMore
attribute [local go_sem] max2_int min2_int max_two min_two max_three min_three max_four min_four
set_option linter.unusedVariables false
set_option linter.unusedSimpArgs false
set_option maxHeartbeats 8000000 in
set_option maxRecDepth 100000 in
theorem spec_l3Same.calls (k : Nat) (a0_0 : Int) (a0_1 : Int) (A0_2 : Option Addr) (c0_2 : Nat) (l0_2 : List Int) (a0_3 : Int) (a0_4 : Int) (A0_5 : Option Addr) (c0_5 : Nat) (l0_5 : List (S67)) (A0_6 : Option Addr) (c0_6 : Nat) (l0_6 : List (S70)) (A0_7 : Option Addr) (c0_7 : Nat) (l0_7 : List (S73)) (a1_0 : Int) (a1_1 : Int) (A1_2 : Option Addr) (c1_2 : Nat) (l1_2 : List Int) (a1_3 : Int) (a1_4 : Int) (A1_5 : Option Addr) (c1_5 : Nat) (l1_5 : List (S67)) (A1_6 : Option Addr) (c1_6 : Nat) (l1_6 : List (S70)) (A1_7 : Option Addr) (c1_7 : Nat) (l1_7 : List (S73)) (r : Bool) (w : World) (hr0_2 : Kd.C (Kd.int .i64) w A0_2 l0_2.length l0_2) (hc0_2 : l0_2.length ≤ c0_2) (hr0_5 : Kd.C k67 w A0_5 l0_5.length l0_5) (hc0_5 : l0_5.length ≤ c0_5) (hr0_6 : Kd.C k70 w A0_6 l0_6.length l0_6) (hc0_6 : l0_6.length ≤ c0_6) (hr0_7 : Kd.C k73 w A0_7 l0_7.length l0_7) (hc0_7 : l0_7.length ≤ c0_7) (hr1_2 : Kd.C (Kd.int .i64) w A1_2 l1_2.length l1_2) (hc1_2 : l1_2.length ≤ c1_2) (hr1_5 : Kd.C k67 w A1_5 l1_5.length l1_5) (hc1_5 : l1_5.length ≤ c1_5) (hr1_6 : Kd.C k70 w A1_6 l1_6.length l1_6) (hc1_6 : l1_6.length ≤ c1_6) (hr1_7 : Kd.C k73 w A1_7 l1_7.length l1_7) (hc1_7 : l1_7.length ≤ c1_7) (h : spec_l3Same.f k a0_0 a0_1 l0_2 a0_3 a0_4 l0_5 l0_6 l0_7 a1_0 a1_1 l1_2 a1_3 a1_4 l1_5 l1_6 l1_7 = some r) :
  Calls Try.prog 39 #[.agg #[.int .i64 a0_0, .int .i64 a0_1, .slice A0_2 l0_2.length c0_2, .int .i64 a0_3, .int .i64 a0_4, .slice A0_5 l0_5.length c0_5, .slice A0_6 l0_6.length c0_6, .slice A0_7 l0_7.length c0_7], .agg #[.int .i64 a1_0, .int .i64 a1_1, .slice A1_2 l1_2.length c1_2, .int .i64 a1_3, .int .i64 a1_4, .slice A1_5 l1_5.length c1_5, .slice A1_6 l1_6.length c1_6, .slice A1_7 l1_7.length c1_7]] w fun e w' => e = .returned (.bool r) ∧ Below w.heap.size w w' := by
 have hu46 := Try.underlying46
 have HR0_2 := Aside0.mk hr0_2
 have HC0_2 := Aside0.mk hc0_2
 clear hr0_2 hc0_2
 have HR0_5 := Aside0.mk hr0_5
 have HC0_5 := Aside0.mk hc0_5
 clear hr0_5 hc0_5
 have HR0_6 := Aside0.mk hr0_6
 have HC0_6 := Aside0.mk hc0_6
 clear hr0_6 hc0_6
 have HR0_7 := Aside0.mk hr0_7
 have HC0_7 := Aside0.mk hc0_7
 clear hr0_7 hc0_7
 have HR1_2 := Aside0.mk hr1_2
 have HC1_2 := Aside0.mk hc1_2
 clear hr1_2 hc1_2
 have HR1_5 := Aside0.mk hr1_5
 have HC1_5 := Aside0.mk hc1_5
 clear hr1_5 hc1_5
 have HR1_6 := Aside0.mk hr1_6
 have HC1_6 := Aside0.mk hc1_6
 clear hr1_6 hc1_6
 have HR1_7 := Aside0.mk hr1_7
 have HC1_7 := Aside0.mk hc1_7
 clear hr1_7 hc1_7
 have HB := Aside0.mk (Below.refl w.heap.size w)
 have H : (if a0_3 = a1_3 then (spec_l3Same.j0 k ((l0_2.length : Int) != (l1_2.length : Int)) a0_0 a0_1 l0_2 a0_3 a0_4 l0_5 l0_6 l0_7 a1_0 a1_1 l1_2 a1_3 a1_4 l1_5 l1_6 l1_7) else (spec_l3Same.j0 k true a0_0 a0_1 l0_2 a0_3 a0_4 l0_5 l0_6 l0_7 a1_0 a1_1 l1_2 a1_3 a1_4 l1_5 l1_6 l1_7)) = some r := h
 clear h
 have HC3 := Aside0.mk H
 clear H
 go_enter Try.func39, Try.ntmps39
 go_upto_region 1 with (first | ((with_reducible refine gd 2 rfl ?_); (try (refine gate_guard (by rfl) ?_; dsimp only)); refine bx 2 #[.int .i64 a0_0, .int .i64 a0_1, .slice A0_2 l0_2.length c0_2, .int .i64 a0_3, .int .i64 a0_4, .slice A0_5 l0_5.length c0_5, .slice A0_6 l0_6.length c0_6, .slice A0_7 l0_7.length c0_7] 46 ?_; intro gb193 hg w4 hbox hb; have BK193 := Aside0.mk hbox; have GW193 := hz HB hg; have GE193 := hz HB hg; replace HB := hs HB hb; clear hb hbox hg) | ((with_reducible refine gd 3 rfl ?_); (try (refine gate_guard (by rfl) ?_; dsimp only)); refine bx 3 #[.int .i64 a1_0, .int .i64 a1_1, .slice A1_2 l1_2.length c1_2, .int .i64 a1_3, .int .i64 a1_4, .slice A1_5 l1_5.length c1_5, .slice A1_6 l1_6.length c1_6, .slice A1_7 l1_7.length c1_7] 46 ?_; intro gb194 hg w5 hbox hb; have BK194 := Aside0.mk hbox; have GW194 := hz HB hg; have GE194 := hz HB hg; have NB193_194 := nl BK193 hg; have NB194_193 := ng BK193 hg; replace BK193 := kb BK193 hb; replace HB := hs HB hb; clear hb hbox hg))
 repeat (go_quiet (first | ((with_reducible refine gate_dst (N := 2) rfl ?_); (try (refine gate_guard (by rfl) ?_; dsimp only)); refine box_event ?hg (N := 2) ?hd (cs := #[.int .i64 a0_0, .int .i64 a0_1, .slice A0_2 l0_2.length c0_2, .int .i64 a0_3, .int .i64 a0_4, .slice A0_5 l0_5.length c0_5, .slice A0_6 l0_6.length c0_6, .slice A0_7 l0_7.length c0_7]) (t := 46) ?hr ?_; (case hd => rfl); (case hg => rfl); (case hr => first | (go_simp; done) | (go_simp; rfl)); intro gb193 hg w4 hbox hb; have n0_ := Aside0.mk (below_step (by repeat (first | (with_reducible first | exact HB.out | apply below_alloc | apply pw_below_drewN | apply below_drew1) | exact HB.out)) hb); have n1_ := Aside0.mk (hbox); have n2_ := Aside0.mk ((by rw [hg]; exact (below_size (by repeat (first | (with_reducible first | exact HB.out | apply below_alloc | apply pw_below_drewN | apply below_drew1) | exact HB.out))) : w.heap.size ≤ gb193)); have n3_ := Aside0.mk ((by rw [hg]; exact (below_size (by repeat (first | (with_reducible first | exact HB.out | apply below_alloc | apply pw_below_drewN | apply below_drew1) | exact HB.out))) : w.heap.size ≤ gb193)); clear HB; have HB := n0_; have BK193 := n1_; have GW193 := n2_; have GE193 := n3_; clear n0_ n1_ n2_ n3_; clear hb hbox hg) | ((with_reducible refine gate_dst (N := 3) rfl ?_); (try (refine gate_guard (by rfl) ?_; dsimp only)); refine box_event ?hg (N := 3) ?hd (cs := #[.int .i64 a1_0, .int .i64 a1_1, .slice A1_2 l1_2.length c1_2, .int .i64 a1_3, .int .i64 a1_4, .slice A1_5 l1_5.length c1_5, .slice A1_6 l1_6.length c1_6, .slice A1_7 l1_7.length c1_7]) (t := 46) ?hr ?_; (case hd => rfl); (case hg => rfl); (case hr => first | (go_simp; done) | (go_simp; rfl)); intro gb194 hg w5 hbox hb; have n0_ := Aside0.mk (blk_below (g := gb193) (o := .cells #[.int .i64 a0_0, .int .i64 a0_1, .slice A0_2 l0_2.length c0_2, .int .i64 a0_3, .int .i64 a0_4, .slice A0_5 l0_5.length c0_5, .slice A0_6 l0_6.length c0_6, .slice A0_7 l0_7.length c0_7] 46 (0, 0)) (by (with_reducible repeat (first | refine blk_drewN ?_ _ | refine blk_drew ?_ | refine blk_alloc ?_ _)); exact BK193.out) hb); have n1_ := Aside0.mk (below_step (by repeat (first | (with_reducible first | exact HB.out | apply below_alloc | apply pw_below_drewN | apply below_drew1 | refine below_set ?_ GE193.out) | exact HB.out)) hb); have n2_ := Aside0.mk (hbox); have n3_ := Aside0.mk ((by rw [hg]; exact (below_size (by repeat (first | (with_reducible first | exact HB.out | apply below_alloc | apply pw_below_drewN | apply below_drew1 | refine below_set ?_ GE193.out) | exact HB.out))) : w.heap.size ≤ gb194)); have n4_ := Aside0.mk ((by rw [hg]; exact (below_size (by repeat (first | (with_reducible first | exact HB.out | apply below_alloc | apply pw_below_drewN | apply below_drew1 | refine below_set ?_ GE193.out) | exact HB.out))) : w.heap.size ≤ gb194)); have n5_ := Aside0.mk ((by rw [hg]; exact Nat.ne_of_lt (blk_lt (g := gb193) (o := .cells #[.int .i64 a0_0, .int .i64 a0_1, .slice A0_2 l0_2.length c0_2, .int .i64 a0_3, .int .i64 a0_4, .slice A0_5 l0_5.length c0_5, .slice A0_6 l0_6.length c0_6, .slice A0_7 l0_7.length c0_7] 46 (0, 0)) (by (with_reducible repeat (first | refine blk_drewN ?_ _ | refine blk_drew ?_ | refine blk_alloc ?_ _)); exact BK193.out)) : gb193 ≠ gb194)); have n6_ := Aside0.mk ((by rw [hg]; exact Nat.ne_of_gt (blk_lt (g := gb193) (o := .cells #[.int .i64 a0_0, .int .i64 a0_1, .slice A0_2 l0_2.length c0_2, .int .i64 a0_3, .int .i64 a0_4, .slice A0_5 l0_5.length c0_5, .slice A0_6 l0_6.length c0_6, .slice A0_7 l0_7.length c0_7] 46 (0, 0)) (by (with_reducible repeat (first | refine blk_drewN ?_ _ | refine blk_drew ?_ | refine blk_alloc ?_ _)); exact BK193.out)) : gb194 ≠ gb193)); clear BK193; clear HB; have BK193 := n0_; have HB := n1_; have BK194 := n2_; have GW194 := n3_; have GE194 := n4_; have NB193_194 := n5_; have NB194_193 := n6_; clear n0_ n1_ n2_ n3_ n4_ n5_ n6_; clear hb hbox hg)); go_upto_region 1 with (first | ((with_reducible refine gd 2 rfl ?_); (try (refine gate_guard (by rfl) ?_; dsimp only)); refine bx 2 #[.int .i64 a0_0, .int .i64 a0_1, .slice A0_2 l0_2.length c0_2, .int .i64 a0_3, .int .i64 a0_4, .slice A0_5 l0_5.length c0_5, .slice A0_6 l0_6.length c0_6, .slice A0_7 l0_7.length c0_7] 46 ?_; intro gb193 hg w4 hbox hb; have BK193 := Aside0.mk hbox; have GW193 := hz HB hg; have GE193 := hz HB hg; replace HB := hs HB hb; clear hb hbox hg) | ((with_reducible refine gd 3 rfl ?_); (try (refine gate_guard (by rfl) ?_; dsimp only)); refine box_event ?hg (N := 3) ?hd (cs := #[.int .i64 a1_0, .int .i64 a1_1, .slice A1_2 l1_2.length c1_2, .int .i64 a1_3, .int .i64 a1_4, .slice A1_5 l1_5.length c1_5, .slice A1_6 l1_6.length c1_6, .slice A1_7 l1_7.length c1_7]) (t := 46) ?hr ?_; (case hd => rfl); (case hg => rfl); (case hr => first | (go_simp; done) | (go_simp; rfl)); intro gb194 hg w5 hbox hb; have n0_ := Aside0.mk (blk_below (g := gb193) (o := .cells #[.int .i64 a0_0, .int .i64 a0_1, .slice A0_2 l0_2.length c0_2, .int .i64 a0_3, .int .i64 a0_4, .slice A0_5 l0_5.length c0_5, .slice A0_6 l0_6.length c0_6, .slice A0_7 l0_7.length c0_7] 46 (0, 0)) (by (with_reducible repeat (first | refine blk_drewN ?_ _ | refine blk_drew ?_ | refine blk_alloc ?_ _)); exact BK193.out) hb); have n1_ := Aside0.mk (below_step bl hb); have n2_ := Aside0.mk (hbox); have n3_ := Aside0.mk ((by rw [hg]; exact (below_size bl) : w.heap.size ≤ gb194)); have n4_ := Aside0.mk ((by rw [hg]; exact (below_size bl) : w.heap.size ≤ gb194)); have n5_ := Aside0.mk ((by rw [hg]; exact Nat.ne_of_lt (blk_lt (g := gb193) (o := .cells #[.int .i64 a0_0, .int .i64 a0_1, .slice A0_2 l0_2.length c0_2, .int .i64 a0_3, .int .i64 a0_4, .slice A0_5 l0_5.length c0_5, .slice A0_6 l0_6.length c0_6, .slice A0_7 l0_7.length c0_7] 46 (0, 0)) (by (with_reducible repeat (first | refine blk_drewN ?_ _ | refine blk_drew ?_ | refine blk_alloc ?_ _)); exact BK193.out)) : gb193 ≠ gb194)); have n6_ := Aside0.mk ((by rw [hg]; exact Nat.ne_of_gt (blk_lt (g := gb193) (o := .cells #[.int .i64 a0_0, .int .i64 a0_1, .slice A0_2 l0_2.length c0_2, .int .i64 a0_3, .int .i64 a0_4, .slice A0_5 l0_5.length c0_5, .slice A0_6 l0_6.length c0_6, .slice A0_7 l0_7.length c0_7] 46 (0, 0)) (by (with_reducible repeat (first | refine blk_drewN ?_ _ | refine blk_drew ?_ | refine blk_alloc ?_ _)); exact BK193.out)) : gb194 ≠ gb193)); clear BK193; clear HB; have BK193 := n0_; have HB := n1_; have BK194 := n2_; have GW194 := n3_; have GE194 := n4_; have NB193_194 := n5_; have NB194_193 := n6_; clear n0_ n1_ n2_ n3_ n4_ n5_ n6_; clear hb hbox hg)))
 (try simp only [Act.put, List.setIfInBounds_toArray, List.set_cons_zero, List.set_cons_succ])
 go_cut [19] (fun v19 wc => ∃ (kq : Nat) (x19_2 : Bool), v19 = .bool x19_2 ∧ Aside0 (spec_l3Same.j0 kq x19_2 a0_0 a0_1 l0_2 a0_3 a0_4 l0_5 l0_6 l0_7 a1_0 a1_1 l1_2 a1_3 a1_4 l1_5 l1_6 l1_7 = some r) ∧ Aside0 (kq ≤ k) ∧ Aside0 (wc.heap[gb193]? = some (.cells #[.int .i64 a0_0, .int .i64 a0_1, (.slice A0_2 l0_2.length c0_2), .int .i64 a0_3, .int .i64 a0_4, (.slice A0_5 l0_5.length c0_5), (.slice A0_6 l0_6.length c0_6), (.slice A0_7 l0_7.length c0_7)] 46 (0, 0))) ∧ Aside0 (wc.heap[gb194]? = some (.cells #[.int .i64 a1_0, .int .i64 a1_1, (.slice A1_2 l1_2.length c1_2), .int .i64 a1_3, .int .i64 a1_4, (.slice A1_5 l1_5.length c1_5), (.slice A1_6 l1_6.length c1_6), (.slice A1_7 l1_7.length c1_7)] 46 (0, 0))) ∧ Aside0 (Below w.heap.size w wc))
 case first =>
  have H := HC3.out
  clear HC3
  by_cases c6 : a0_3 = a1_3
  ·rw [if_pos c6] at H
   have c6b0 := beq_iff_eq.mpr c6
   have c6b1 := bne_eq_false_iff_eq.mpr c6
   clear c6
   (first | rw [c6b0] | (simp only [i64_w, i32_w]; rw [c6b0]) | skip)
   have H' := Aside0.mk H
   clear H
   have hnb7 := NB193_194.out
   have hnc7 := NB194_193.out
   obtain ⟨_,_,_,_,_,_,_,_,_,_,_,_,_,_,_,_⟩ := cf8 BK193
   obtain ⟨_,_,_,_,_,_,_,_,_,_,_,_,_,_,_,_⟩ := cf8 BK194
   go_wp2
   repeat (go_quiet (fail); try go_wp2)
   go_meet
   case rel => exact ⟨_, (((l0_2.length : Int) != (l1_2.length : Int))), (by first | rfl | (simp; done) | (simp [*]; done)), H', ⟨by first | omega | exact Nat.le_refl _⟩, kk BK193, kk BK194, ⟨bl⟩⟩
  ·rw [if_neg c6] at H
   have c6b0 := beq_eq_false_iff_ne.mpr c6
   have c6b1 := bne_iff_ne.mpr c6
   (first | rw [c6b0] | (simp only [i64_w, i32_w]; rw [c6b0]) | skip)
   have H' := Aside0.mk H
   clear H
   have hnb10 := NB193_194.out
   have hnc10 := NB194_193.out
   obtain ⟨_,_,_,_,_,_,_,_,_,_,_,_,_,_,_,_⟩ := cf8 BK193
   obtain ⟨_,_,_,_,_,_,_,_,_,_,_,_,_,_,_,_⟩ := cf8 BK194
   go_wp2
   repeat (go_quiet (fail); try go_wp2)
   go_meet
   case rel => exact ⟨_, (true), (by first | rfl | (simp; done) | (simp [*]; done)), H', ⟨by first | omega | exact Nat.le_refl _⟩, kk BK193, kk BK194, ⟨bl⟩⟩
 case rest =>
  clear HC3
  obtain ⟨kq, x19_2, rfl, HA, HJ2, BK193, BK194, HB⟩ := hcut
  cases kq with
  | zero => exact absurd HA.out (by simp [spec_l3Same.j0])
  | succ kj2 =>
   have H := HA.out
   clear HA
   simp only [spec_l3Same.j0] at H
   by_cases c13 : x19_2 = true
   ·subst c13
    replace H := it H
    obtain rfl := Option.some.inj H; clear H
    go_wp2
    repeat (go_quiet (fail); try go_wp2)
    go_ret
    exact fin
   ·replace c13 := Bool.eq_false_iff.mpr c13
    subst c13
    replace H := ie H
    have H' := Aside0.mk H
    clear H
    go_wp2
    repeat (go_quiet (fail); try go_wp2)
    go_loopg [5] kj2 (fun kq v5 w' => ∃ (x5_2 : Int), v5 = .int .i64 x5_2 ∧ Aside0 (spec_l3Same.l0 kq x5_2 a0_0 a0_1 l0_2 a0_3 a0_4 l0_5 l0_6 l0_7 a1_0 a1_1 l1_2 a1_3 a1_4 l1_5 l1_6 l1_7 = some r) ∧ Aside0 (kq ≤ kj2) ∧ Aside0 (w'.heap[gb193]? = some (.cells #[.int .i64 a0_0, .int .i64 a0_1, (.slice A0_2 l0_2.length c0_2), .int .i64 a0_3, .int .i64 a0_4, (.slice A0_5 l0_5.length c0_5), (.slice A0_6 l0_6.length c0_6), (.slice A0_7 l0_7.length c0_7)] 46 (0, 0))) ∧ Aside0 (w'.heap[gb194]? = some (.cells #[.int .i64 a1_0, .int .i64 a1_1, (.slice A1_2 l1_2.length c1_2), .int .i64 a1_3, .int .i64 a1_4, (.slice A1_5 l1_5.length c1_5), (.slice A1_6 l1_6.length c1_6), (.slice A1_7 l1_7.length c1_7)] 46 (0, 0))) ∧ Aside0 (Below w.heap.size w w'))
    case atStart => exact ⟨(0), (by first | rfl | (simp; done) | (simp [*]; done)), H', ⟨Nat.le_refl _⟩, kk BK193, kk BK194, ⟨bl⟩⟩
    case round =>
     clear H'
     obtain ⟨x5_2, rfl, HA, HK2, BK193, BK194, HB⟩ := hrel
     cases gk with
     | zero => exact absurd HA.out (by simp [spec_l3Same.l0])
     | succ k2 =>
      have H := HA.out
      clear HA
      simp only [spec_l3Same.l0] at H
      by_cases c14 : x5_2 < (l0_2.length : Int)
      ·rw [if_pos c14] at H
       have c14b0 : decide (x5_2 < (l0_2.length : Int)) = true := decide_eq_true c14
       clear c14
       by_cases c15 : 0 ≤ x5_2
       ·rw [if_pos c15] at H
        have c15b0 : decide (0 ≤ x5_2) = true := decide_eq_true c15
        clear c15
        by_cases c16 : x5_2 < (l1_2.length : Int)
        ·rw [if_pos c16] at H
         have c16b0 : decide (x5_2 < (l1_2.length : Int)) = true := decide_eq_true c16
         clear c16
         by_cases c17 : (rd l0_2 x5_2) = (rd l1_2 x5_2)
         ·rw [if_pos c17] at H
          have c17b0 := beq_iff_eq.mpr c17
          have c17b1 := bne_eq_false_iff_eq.mpr c17
          clear c17
          have H' := Aside0.mk H
          clear H
          have hnb18 := NB193_194.out
          have hnc18 := NB194_193.out
          obtain ⟨_,_,_,_,_,_,_,_,_,_,_,_,_,_,_,_⟩ := cf8 BK193
          have p195 : 0 ≤ (x5_2 : Int) := od
          have q195 : x5_2 < (l0_2.length : Int) := od
          obtain ⟨ad195, e195, hx195_0⟩ := Kd.at_int HR0_2.out x5_2 p195 q195
          cases e195
          replace hx195_0 := hc HB hx195_0
          replace p195 := eq_true p195
          replace q195 := eq_true q195
          obtain ⟨_,_,_,_,_,_,_,_,_,_,_,_,_,_,_,_⟩ := cf8 BK194
          have p196 : 0 ≤ (x5_2 : Int) := od
          have q196 : x5_2 < (l1_2.length : Int) := od
          obtain ⟨ad196, e196, hx196_0⟩ := Kd.at_int HR1_2.out x5_2 p196 q196
          cases e196
          replace hx196_0 := hc HB hx196_0
          replace p196 := eq_true p196
          replace q196 := eq_true q196
          go_wp2
          repeat (go_quiet (fail); try go_wp2)
          go_roundg k2
          case measure => have := HJ2.out; have := HK2.out; omega
          case rel => exact ⟨(wrap64 (x5_2 + 1)), (by first | rfl | (simp; done) | (simp [*]; done)), H', ⟨by have := HJ2.out; have := HK2.out; omega⟩, kk BK193, kk BK194, ⟨bl⟩⟩
         ·rw [if_neg c17] at H
          have c17b0 := beq_eq_false_iff_ne.mpr c17
          have c17b1 := bne_iff_ne.mpr c17
          obtain rfl := Option.some.inj H; clear H
          have hnb21 := NB193_194.out
          have hnc21 := NB194_193.out
          obtain ⟨_,_,_,_,_,_,_,_,_,_,_,_,_,_,_,_⟩ := cf8 BK193
          have p195 : 0 ≤ (x5_2 : Int) := od
          have q195 : x5_2 < (l0_2.length : Int) := od
          obtain ⟨ad195, e195, hx195_0⟩ := Kd.at_int HR0_2.out x5_2 p195 q195
          cases e195
          replace hx195_0 := hc HB hx195_0
          replace p195 := eq_true p195
          replace q195 := eq_true q195
          obtain ⟨_,_,_,_,_,_,_,_,_,_,_,_,_,_,_,_⟩ := cf8 BK194
          have p196 : 0 ≤ (x5_2 : Int) := od
          have q196 : x5_2 < (l1_2.length : Int) := od
          obtain ⟨ad196, e196, hx196_0⟩ := Kd.at_int HR1_2.out x5_2 p196 q196
          cases e196
          replace hx196_0 := hc HB hx196_0
          replace p196 := eq_true p196
          replace q196 := eq_true q196
          go_wp2
          repeat (go_quiet (fail); try go_wp2)
          go_ret
          exact fin
        ·rw [if_neg c16] at H
         exact absurd H (by simp)
       ·rw [if_neg c15] at H
        exact absurd H (by simp)
      ·rw [if_neg c14] at H
       have c14b0 : decide (x5_2 < (l0_2.length : Int)) = false := decide_eq_false c14
       clear c14
       obtain rfl := Option.some.inj H; clear H
       have hnb24 := NB193_194.out
       have hnc24 := NB194_193.out
       obtain ⟨_,_,_,_,_,_,_,_,_,_,_,_,_,_,_,_⟩ := cf8 BK193
       go_wp2
       repeat (go_quiet (fail); try go_wp2)
       go_ret
       exact fin
end Go.Proofs.Ytedodaifpekahaa.P

end
